/-
  The law LedgerAll.
-/
import Derived.Test.YtnimpcffagidoaaL6
import Derived.Test.YtnimpcffagidoaaKR
import Derived.KernelRfl
set_option linter.unusedSimpArgs false
set_option linter.unusedVariables false
namespace Go.Proofs.Ytnimpcffagidoaa.K
open Go.RowKit
noncomputable section
def smallL (l : List Ledger) : Bool := l.all fun z => decide (z.1.length ≤ 140)
open Classical in
def genB (l : Ledger) : Bool := decide (Gen zeroDec (decs l.1)) && decide (l.1.length ≤ 100)
def dr_law41_LedgerAll_0 : List DO := [(.mk (.mk (some 61) none (.m (.ld true 5 (.t 8)))) []), (.mk (.mk (some 62) none (.m (.pu (.mv (.t 13))))) []), (.mk (.mk (some 63) none (.m (.ld true 5 (.t 15)))) []), (.mk (.mk (some 64) none (.call 29 [(.t 62), (.t 63)])) [1, 2]), (.mk (.mk (some 65) none (.m (.pu (.fa 0 (.t 15))))) []), (.mk (.mk (some 66) none (.m (.ld false 1 (.t 65)))) [4]), (.mk (.mk (some 67) none (.m (.pu (.bin false .sub (.t 66) (.c (.v (.int .i64 1))))))) [5]), (.mk (.mk (some 68) none (.m (.pu (.fa 1 (.t 15))))) []), (.mk (.mk (some 69) none (.m (.ld false 1 (.t 68)))) [7]), (.mk (.mk (some 70) none (.m (.pu (.bd [(.v (.int .i64 0)), (.v (.int .i64 0)), (.v (.int .i64 0)), (.v (.int .i64 0)), (.v (.int .i64 0))] [(0, 1, (.t 67)), (1, 1, (.t 69)), (2, 1, (.c (.v (.int .i64 1))))])))) [6, 8]), (.mk (.mk (some 71) none (.m (.pu (.fa 0 (.t 15))))) []), (.mk (.mk (some 72) none (.m (.ld false 1 (.t 71)))) [10]), (.mk (.mk (some 73) none (.m (.pu (.fa 1 (.t 15))))) []), (.mk (.mk (some 74) none (.m (.ld false 1 (.t 73)))) [12]), (.mk (.mk (some 75) none (.m (.pu (.bin false .sub (.t 74) (.c (.v (.int .i64 1))))))) [13]), (.mk (.mk (some 76) none (.m (.pu (.bd [(.v (.int .i64 0)), (.v (.int .i64 0)), (.v (.int .i64 0)), (.v (.int .i64 0)), (.v (.int .i64 0))] [(0, 1, (.t 72)), (1, 1, (.t 75)), (2, 1, (.c (.v (.int .i64 1))))])))) [11, 14]), (.mk (.mk (some 77) none (.m (.pu (.fa 0 (.t 15))))) []), (.mk (.mk (some 78) none (.m (.ld false 1 (.t 77)))) [16]), (.mk (.mk (some 79) none (.m (.pu (.fa 1 (.t 15))))) []), (.mk (.mk (some 80) none (.m (.ld false 1 (.t 79)))) [18]), (.mk (.mk (some 81) none (.m (.pu (.mv (.t 13))))) []), (.mk (.mk (some 82) none (.m (.bs 3 1 2 [(.v (.int .i64 0)), (.v (.int .i64 0))] [(0, 1, (.c (.v (.int .i64 40)))), (1, 1, (.c (.v (.int .i64 41))))]))) []), (.mk (.mk (some 83) none (.call 36 [(.t 81), (.t 82)])) [20, 21, 3]), (.mk (.mk (some 84) none (.m (.pu (.bd [(.v (.int .i64 0)), (.v (.int .i64 0)), (.v (.int .i64 0)), (.v (.int .i64 0)), (.v (.int .i64 0))] [(0, 1, (.t 78)), (1, 1, (.t 80)), (2, 1, (.c (.v (.int .i64 1)))), (3, 1, (.t 83))])))) [17, 19, 22]), (.mk (.mk (some 85) none (.m (.bs 40 5 5 [(.v (.int .i64 0)), (.v (.int .i64 0)), (.v (.int .i64 0)), (.v (.int .i64 0)), (.v (.int .i64 0)), (.v (.int .i64 0)), (.v (.int .i64 0)), (.v (.int .i64 0)), (.v (.int .i64 0)), (.v (.int .i64 0)), (.v (.int .i64 0)), (.v (.int .i64 0)), (.v (.int .i64 0)), (.v (.int .i64 0)), (.v (.int .i64 0)), (.v (.int .i64 0)), (.v (.int .i64 0)), (.v (.int .i64 0)), (.v (.int .i64 0)), (.v (.int .i64 0)), (.v (.int .i64 0)), (.v (.int .i64 0)), (.v (.int .i64 0)), (.v (.int .i64 0)), (.v (.int .i64 0))] [(0, 5, (.t 61)), (5, 5, (.t 64)), (10, 5, (.t 70)), (15, 5, (.t 76)), (20, 5, (.t 84))]))) [0, 3, 9, 15, 23]), (.mk (.mk (some 86) none (.m (.pu (.len false (.t 85))))) [24]), (.mk (.mk (some 87) none (.m (.pu (.mv (.c (.v (.int .i64 0))))))) [])]
def dr_law41_LedgerAll_1 : List DO := [(.mk (.mk (some 111) none (.m (.pu (.mv (.t 22))))) []), (.mk (.mk (some 112) none (.m (.pu (.mv (.t 24))))) []), (.mk (.mk (some 113) none (.m (.pu (.bin false .neq (.t 111) (.t 112))))) [0, 1]), (.mk (.mk (some 114) none (.m (.pu (.mv (.t 113))))) [2]), (.mk (.mk (some 115) (some (114, false)) (.m (.ld true 1 (.t 21)))) [3]), (.mk (.mk (some 116) (some (114, false)) (.m (.ld true 1 (.t 23)))) [3]), (.mk (.mk (some 117) (some (114, false)) (.call 31 [(.t 115), (.t 116)])) [4, 5, 3, 3]), (.mk (.mk (some 118) (some (114, false)) (.m (.pu (.nt (.t 117))))) [6, 3]), (.mk (.mk (some 119) none (.m (.pu (.pick (.t 114) (.c (.v (.bool true))) (.t 118))))) [3, 7]), (.mk (.mk (some 120) none (.m (.pu (.mv (.t 119))))) [8, 6]), (.mk (.mk (some 121) (some (120, false)) (.m (.ld true 1 (.t 20)))) [9]), (.mk (.mk (some 122) (some (120, false)) (.call 32 [(.t 121)])) [10, 9, 9]), (.mk (.mk (some 123) (some (120, false)) (.m (.ld true 1 (.t 20)))) [9]), (.mk (.mk (some 124) (some (120, false)) (.call 38 [(.t 123)])) [12, 11, 9]), (.mk (.mk (some 125) (some (120, false)) (.m (.pu (.bin false .neq (.t 122) (.t 124))))) [11, 13, 9]), (.mk (.mk (some 126) none (.m (.pu (.pick (.t 120) (.c (.v (.bool true))) (.t 125))))) [9, 14]), (.mk (.mk (some 127) none (.m (.pu (.mv (.t 126))))) [15, 13]), (.mk (.mk (some 128) (some (127, false)) (.m (.ld true 1 (.t 21)))) [16]), (.mk (.mk (some 129) (some (127, false)) (.m (.ld true 1 (.t 14)))) [16]), (.mk (.mk (some 130) (some (127, false)) (.call 30 [(.t 128), (.t 129)])) [17, 18, 16, 16]), (.mk (.mk (some 131) (some (127, false)) (.m (.ld true 1 (.t 23)))) [16]), (.mk (.mk (some 132) (some (127, false)) (.m (.ld true 1 (.t 14)))) [16]), (.mk (.mk (some 133) (some (127, false)) (.call 31 [(.t 131), (.t 132)])) [20, 21, 19, 16]), (.mk (.mk (some 134) (some (127, false)) (.m (.pu (.bin true .neq (.t 130) (.t 133))))) [19, 22, 16]), (.mk (.mk (some 135) none (.m (.pu (.pick (.t 127) (.c (.v (.bool true))) (.t 134))))) [16, 23])]
def dr_law41_LedgerAll_2 : List DO := [(.mk (.mk (some 198) none (.m (.ld true 5 (.t 31)))) []), (.mk (.mk (some 199) none (.m (.ld true 5 (.t 33)))) []), (.mk (.mk (some 200) none (.m (.pu (.eqs true [0, 0, 0, 0, 0] (.t 198) (.t 199))))) [0, 1]), (.mk (.mk (some 201) none (.m (.pu (.mv (.t 200))))) [2]), (.mk (.mk (some 202) (some (201, false)) (.m (.pu (.mv (.t 32))))) [3]), (.mk (.mk (some 203) (some (201, false)) (.m (.pu (.mv (.t 34))))) [3]), (.mk (.mk (some 204) (some (201, false)) (.m (.pu (.bin true .neq (.t 202) (.t 203))))) [4, 5, 3]), (.mk (.mk (some 205) none (.m (.pu (.pick (.t 201) (.c (.v (.bool true))) (.t 204))))) [3, 6]), (.mk (.mk (some 206) none (.m (.pu (.mv (.t 205))))) [7, 3]), (.mk (.mk (some 207) (some (206, false)) (.m (.ld true 1 (.t 14)))) [8]), (.mk (.mk (some 208) (some (206, false)) (.m (.pu (.fa 2 (.t 30))))) [8]), (.mk (.mk (some 209) (some (206, false)) (.m (.ld false 1 (.t 208)))) [10, 8]), (.mk (.mk (some 210) (some (206, false)) (.call 28 [(.t 207), (.t 209)])) [9, 11, 8, 8]), (.mk (.mk (some 211) (some (206, false)) (.m (.ld true 1 (.t 14)))) [8]), (.mk (.mk (some 212) (some (206, false)) (.m (.pu (.fa 2 (.t 30))))) [8]), (.mk (.mk (some 213) (some (206, false)) (.m (.ld false 1 (.t 212)))) [14, 8]), (.mk (.mk (some 214) (some (206, false)) (.call 41 [(.t 211), (.t 213)])) [13, 15, 12, 8]), (.mk (.mk (some 215) (some (206, false)) (.m (.pu (.bin false .neq (.t 210) (.t 214))))) [12, 16, 8]), (.mk (.mk (some 216) none (.m (.pu (.pick (.t 206) (.c (.v (.bool true))) (.t 215))))) [8, 17]), (.mk (.mk (some 217) none (.m (.pu (.mv (.t 216))))) [18, 16]), (.mk (.mk (some 218) (some (217, false)) (.m (.ld true 1 (.t 14)))) [19]), (.mk (.mk (some 219) (some (217, false)) (.m (.pu (.fa 2 (.t 30))))) [19]), (.mk (.mk (some 220) (some (217, false)) (.m (.ld false 1 (.t 219)))) [21, 19]), (.mk (.mk (some 221) (some (217, false)) (.call 34 [(.t 218), (.t 220)])) [20, 22, 19, 19]), (.mk (.mk (some 222) (some (217, false)) (.m (.ld true 1 (.t 14)))) [19]), (.mk (.mk (some 223) (some (217, false)) (.m (.pu (.fa 2 (.t 30))))) [19]), (.mk (.mk (some 224) (some (217, false)) (.m (.ld false 1 (.t 223)))) [25, 19]), (.mk (.mk (some 225) (some (217, false)) (.call 42 [(.t 222), (.t 224)])) [24, 26, 23, 19]), (.mk (.mk (some 226) (some (217, false)) (.call 31 [(.t 221), (.t 225)])) [23, 27, 27, 19]), (.mk (.mk (some 227) (some (217, false)) (.m (.pu (.nt (.t 226))))) [28, 19]), (.mk (.mk (some 228) none (.m (.pu (.pick (.t 217) (.c (.v (.bool true))) (.t 227))))) [19, 29]), (.mk (.mk (some 229) none (.m (.pu (.mv (.t 228))))) [30, 28]), (.mk (.mk (some 230) (some (229, false)) (.m (.ld true 1 (.t 14)))) [31]), (.mk (.mk (some 231) (some (229, false)) (.m (.pu (.fa 0 (.t 30))))) [31]), (.mk (.mk (some 232) (some (229, false)) (.m (.ld false 1 (.t 231)))) [33, 31]), (.mk (.mk (some 233) (some (229, false)) (.m (.pu (.fa 1 (.t 30))))) [31]), (.mk (.mk (some 234) (some (229, false)) (.m (.ld false 1 (.t 233)))) [35, 31]), (.mk (.mk (some 235) (some (229, false)) (.call 33 [(.t 230), (.t 232), (.t 234)])) [32, 34, 36, 31, 31]), (.mk (.mk (some 236) (some (229, false)) (.m (.ld true 1 (.t 14)))) [31]), (.mk (.mk (some 237) (some (229, false)) (.m (.pu (.fa 0 (.t 30))))) [31]), (.mk (.mk (some 238) (some (229, false)) (.m (.ld false 1 (.t 237)))) [39, 31]), (.mk (.mk (some 239) (some (229, false)) (.m (.pu (.fa 1 (.t 30))))) [31]), (.mk (.mk (some 240) (some (229, false)) (.m (.ld false 1 (.t 239)))) [41, 31]), (.mk (.mk (some 241) (some (229, false)) (.call 44 [(.t 236), (.t 238), (.t 240)])) [38, 40, 42, 37, 31]), (.mk (.mk (some 242) (some (229, false)) (.call 43 [(.t 235), (.t 241)])) [37, 43, 43, 31]), (.mk (.mk (some 243) (some (229, false)) (.m (.pu (.nt (.t 242))))) [44, 31]), (.mk (.mk (some 244) none (.m (.pu (.pick (.t 229) (.c (.v (.bool true))) (.t 243))))) [31, 45])]
def fg_law41_LedgerAll_0 : Fg := ⟨[(3, some tI), (4, some tI), (5, some tI), (7, none), (14, none), (18, none), (85, some (.sl tyDecision)), (86, some tI), (87, some tI), (93, some (.sl tyLedger)), (94, some tI), (95, some tI)], [(7, some tyLedger), (14, some tyLedger), (18, some tyDecision)]⟩
def tb_law41_LedgerAll_0 : TC := (.sq (.reg [(.mk (some 96) none (.m (.pu (.bin false .lss (.t 95) (.t 94)))))]) (.sq (.cd (.t 96) .sk (.fg ⟨[(3, some tI), (4, some tI), (5, some tI), (7, none), (14, none), (85, some (.sl tyDecision)), (86, some tI), (87, some tI)], [(7, some tyLedger), (14, some tyLedger)]⟩ (.ex 2))) (.sq (.bk 3 (.sq (.reg [(.mk (some 97) none (.m (.pu (.ix 1 (.t 93) (.t 95))))), (.mk (some 98) none (.m (.ld true 1 (.t 97)))), (.mk (some 20) none (.m (.new [(.v (.slice none 0 0))]))), (.mk none none (.m (.st 1 (.t 20) (.t 98))))]) (.sq (.reg [(.mk (some 100) none (.m (.ld true 1 (.t 20)))), (.mk (some 101) none (.m (.ld true 5 (.t 18)))), (.mk (some 102) none (.call 26 [(.t 100), (.t 101)])), (.mk (some 99) none (.m (.pu (.mv (.t 102))))), (.mk (some 103) none (.m (.pu (.ext 0 (.t 99))))), (.mk (some 104) none (.m (.pu (.ext 1 (.t 99))))), (.mk (some 21) none (.m (.new [(.v (.slice none 0 0))]))), (.mk none none (.m (.st 1 (.t 21) (.t 103)))), (.mk (some 22) none (.m (.pu (.mv (.t 104)))))]) (.sq (.reg [(.mk (some 106) none (.m (.ld true 1 (.t 20)))), (.mk (some 107) none (.m (.ld true 5 (.t 18)))), (.mk (some 108) none (.call 37 [(.t 106), (.t 107)])), (.mk (some 105) none (.m (.pu (.mv (.t 108))))), (.mk (some 109) none (.m (.pu (.ext 0 (.t 105))))), (.mk (some 110) none (.m (.pu (.ext 1 (.t 105))))), (.mk (some 23) none (.m (.new [(.v (.slice none 0 0))]))), (.mk none none (.m (.st 1 (.t 23) (.t 109)))), (.mk (some 24) none (.m (.pu (.mv (.t 110)))))]) (.sq (.sq (.dr dr_law41_LedgerAll_1 [(0, []), (1, []), (2, []), (3, []), (4, [21]), (5, [23]), (6, []), (7, []), (8, []), (9, []), (10, [20]), (11, []), (12, [20]), (13, []), (14, []), (15, []), (16, []), (17, [21]), (18, [14]), (19, []), (20, [23]), (21, [14]), (22, []), (23, []), (24, [])] (.of [0, 1, 2, 3, 4, 5, 6, 7, 8, 9, 10, 11, 12, 13, 14, 15, 16, 17, 18, 19, 20, 21, 22, 23, 24])) (.cd (.t 135) (.sq (.reg [(.mk (some 12) none (.m (.pu (.mv (.c (.v (.bool false)))))))]) (.fg ⟨[(12, some .bool)], []⟩ .rt)) .sk)) (.sq (.reg [(.mk (some 137) none (.m (.ld true 1 (.t 21)))), (.mk (some 138) none (.m (.ld true 1 (.t 14)))), (.mk (some 139) none (.call 35 [(.t 137), (.t 138)])), (.mk (some 136) none (.m (.pu (.mv (.t 139))))), (.mk (some 140) none (.m (.pu (.ext 0 (.t 136))))), (.mk (some 141) none (.m (.pu (.ext 1 (.t 136))))), (.mk (some 25) none (.m (.pu (.mv (.t 140))))), (.mk (some 26) none (.m (.pu (.mv (.t 141)))))]) (.sq (.reg [(.mk (some 143) none (.m (.ld true 1 (.t 23)))), (.mk (some 144) none (.m (.ld true 1 (.t 14)))), (.mk (some 145) none (.call 39 [(.t 143), (.t 144)])), (.mk (some 142) none (.m (.pu (.mv (.t 145))))), (.mk (some 146) none (.m (.pu (.ext 0 (.t 142))))), (.mk (some 147) none (.m (.pu (.ext 1 (.t 142))))), (.mk (some 27) none (.m (.pu (.mv (.t 146))))), (.mk (some 28) none (.m (.pu (.mv (.t 147)))))]) (.sq (.reg [(.mk (some 148) none (.m (.pu (.mv (.t 25))))), (.mk (some 149) none (.m (.pu (.mv (.t 27))))), (.mk (some 150) none (.m (.pu (.bin false .neq (.t 148) (.t 149))))), (.mk (some 151) none (.m (.pu (.mv (.t 150))))), (.mk (some 152) (some (151, false)) (.m (.pu (.mv (.t 26))))), (.mk (some 153) (some (151, false)) (.m (.pu (.mv (.t 28))))), (.mk (some 154) (some (151, false)) (.m (.pu (.bin true .neq (.t 152) (.t 153))))), (.mk (some 155) none (.m (.pu (.pick (.t 151) (.c (.v (.bool true))) (.t 154)))))]) (.cd (.t 155) (.sq (.reg [(.mk (some 12) none (.m (.pu (.mv (.c (.v (.bool false)))))))]) (.fg ⟨[(12, some .bool)], []⟩ .rt)) .sk))))))))) (.reg [(.mk (some 156) none (.m (.pu (.bin false .add (.t 95) (.c (.v (.int .i64 1))))))), (.mk (some 95) none (.m (.pu (.mv (.t 156)))))]))))
def fg_law41_LedgerAll_1 : Fg := ⟨[(3, some tI), (4, some tI), (5, some tI), (7, none), (14, none), (85, some (.sl tyDecision)), (86, some tI), (87, some tI)], [(7, some tyLedger), (14, some tyLedger)]⟩
def tb_law41_LedgerAll_1 : TC := (.sq (.reg [(.mk (some 88) none (.m (.pu (.bin false .lss (.t 87) (.t 86)))))]) (.sq (.cd (.t 88) .sk (.fg ⟨[(3, some tI), (4, some tI), (5, some tI), (14, none)], [(14, some tyLedger)]⟩ (.ex 0))) (.sq (.bk 1 (.sq (.reg [(.mk (some 89) none (.m (.pu (.ix 5 (.t 85) (.t 87))))), (.mk (some 90) none (.m (.ld true 5 (.t 89)))), (.mk (some 18) none (.m (.new [(.v (.int .i64 0)), (.v (.int .i64 0)), (.v (.int .i64 0)), (.v (.int .i64 0)), (.v (.int .i64 0))]))), (.mk none none (.m (.st 5 (.t 18) (.t 90))))]) (.sq (.reg [(.mk (some 91) none (.m (.ld true 1 (.t 14)))), (.mk (some 92) none (.m (.ld true 1 (.t 7)))), (.mk (some 93) none (.m (.bs 31 1 2 [(.v (.slice none 0 0)), (.v (.slice none 0 0))] [(0, 1, (.t 91)), (1, 1, (.t 92))]))), (.mk (some 94) none (.m (.pu (.len false (.t 93))))), (.mk (some 95) none (.m (.pu (.mv (.c (.v (.int .i64 0)))))))]) (.bk 2 (.lp 0 fg_law41_LedgerAll_0 tb_law41_LedgerAll_0))))) (.reg [(.mk (some 157) none (.m (.pu (.bin false .add (.t 87) (.c (.v (.int .i64 1))))))), (.mk (some 87) none (.m (.pu (.mv (.t 157)))))]))))
def fg_law41_LedgerAll_2 : Fg := ⟨[(14, none), (170, some (.sl (.pr tI (.pr tI (.pr tI .nil))))), (171, some tI), (172, some tI)], [(14, some tyLedger)]⟩
def tb_law41_LedgerAll_2 : TC := (.sq (.reg [(.mk (some 173) none (.m (.pu (.bin false .lss (.t 172) (.t 171)))))]) (.sq (.cd (.t 173) .sk (.fg ⟨[], []⟩ (.ex 4))) (.sq (.bk 5 (.sq (.reg [(.mk (some 174) none (.m (.pu (.ix 3 (.t 170) (.t 172))))), (.mk (some 175) none (.m (.ld true 3 (.t 174)))), (.mk (some 30) none (.m (.new [(.v (.int .i64 0)), (.v (.int .i64 0)), (.v (.int .i64 0))]))), (.mk none none (.m (.st 3 (.t 30) (.t 175))))]) (.sq (.reg [(.mk (some 177) none (.m (.ld true 1 (.t 14)))), (.mk (some 178) none (.m (.pu (.fa 0 (.t 30))))), (.mk (some 179) none (.m (.ld false 1 (.t 178)))), (.mk (some 180) none (.m (.pu (.fa 1 (.t 30))))), (.mk (some 181) none (.m (.ld false 1 (.t 180)))), (.mk (some 182) none (.m (.pu (.fa 2 (.t 30))))), (.mk (some 183) none (.m (.ld false 1 (.t 182)))), (.mk (some 184) none (.call 27 [(.t 177), (.t 179), (.t 181), (.t 183)])), (.mk (some 176) none (.m (.pu (.mv (.t 184))))), (.mk (some 185) none (.m (.pu (.ext 0 (.t 176))))), (.mk (some 186) none (.m (.pu (.ext 1 (.t 176))))), (.mk (some 31) none (.m (.new [(.v (.int .i64 0)), (.v (.int .i64 0)), (.v (.int .i64 0)), (.v (.int .i64 0)), (.v (.int .i64 0))]))), (.mk none none (.m (.st 5 (.t 31) (.t 185)))), (.mk (some 32) none (.m (.pu (.mv (.t 186)))))]) (.sq (.reg [(.mk (some 188) none (.m (.ld true 1 (.t 14)))), (.mk (some 189) none (.m (.pu (.fa 0 (.t 30))))), (.mk (some 190) none (.m (.ld false 1 (.t 189)))), (.mk (some 191) none (.m (.pu (.fa 1 (.t 30))))), (.mk (some 192) none (.m (.ld false 1 (.t 191)))), (.mk (some 193) none (.m (.pu (.fa 2 (.t 30))))), (.mk (some 194) none (.m (.ld false 1 (.t 193)))), (.mk (some 195) none (.call 40 [(.t 188), (.t 190), (.t 192), (.t 194)])), (.mk (some 187) none (.m (.pu (.mv (.t 195))))), (.mk (some 196) none (.m (.pu (.ext 0 (.t 187))))), (.mk (some 197) none (.m (.pu (.ext 1 (.t 187))))), (.mk (some 33) none (.m (.new [(.v (.int .i64 0)), (.v (.int .i64 0)), (.v (.int .i64 0)), (.v (.int .i64 0)), (.v (.int .i64 0))]))), (.mk none none (.m (.st 5 (.t 33) (.t 196)))), (.mk (some 34) none (.m (.pu (.mv (.t 197)))))]) (.sq (.dr dr_law41_LedgerAll_2 [(0, [31]), (1, [33]), (2, []), (3, []), (4, []), (5, []), (6, []), (7, []), (8, []), (9, [14]), (10, [30]), (11, [30]), (12, []), (13, [14]), (14, [30]), (15, [30]), (16, []), (17, []), (18, []), (19, []), (20, [14]), (21, [30]), (22, [30]), (23, []), (24, [14]), (25, [30]), (26, [30]), (27, []), (28, []), (29, []), (30, []), (31, []), (32, [14]), (33, [30]), (34, [30]), (35, [30]), (36, [30]), (37, []), (38, [14]), (39, [30]), (40, [30]), (41, [30]), (42, [30]), (43, []), (44, []), (45, []), (46, [])] (.of [0, 1, 2, 3, 4, 5, 6, 7, 8, 9, 10, 11, 12, 13, 14, 15, 16, 17, 18, 19, 20, 21, 22, 23, 24, 25, 26, 27, 28, 29, 30, 31, 32, 33, 34, 35, 36, 37, 38, 39, 40, 41, 42, 43, 44, 45, 46])) (.cd (.t 244) (.sq (.reg [(.mk (some 12) none (.m (.pu (.mv (.c (.v (.bool false)))))))]) (.fg ⟨[(12, some .bool)], []⟩ .rt)) .sk)))))) (.reg [(.mk (some 245) none (.m (.pu (.bin false .add (.t 172) (.c (.v (.int .i64 1))))))), (.mk (some 172) none (.m (.pu (.mv (.t 245)))))]))))
/-- cipherplan/cipherplanlaw41.LedgerAll -/
def tc_law41_LedgerAll : TC := (.sq (.reg [(.mk (some 7) none (.m (.box (.t 1)))), (.mk (some 8) none (.m (.box (.t 2)))), (.mk (some 12) none (.m (.pu (.mv (.c (.v (.bool false)))))))]) (.sq (.sq (.reg [(.mk (some 35) none (.m (.pu (.mv (.t 0))))), (.mk (some 36) none (.call 15 [(.t 35)])), (.mk (some 37) none (.m (.pu (.nt (.t 36))))), (.mk (some 38) none (.m (.pu (.mv (.t 37))))), (.mk (some 39) (some (38, false)) (.m (.pu (.fa 0 (.t 7))))), (.mk (some 40) (some (38, false)) (.m (.ld false 1 (.t 39)))), (.mk (some 41) (some (38, false)) (.m (.pu (.len false (.t 40))))), (.mk (some 42) (some (38, false)) (.m (.pu (.bin false .gtr (.t 41) (.c (.v (.int .i64 140))))))), (.mk (some 43) none (.m (.pu (.pick (.t 38) (.c (.v (.bool true))) (.t 42)))))]) (.cd (.t 43) (.sq (.reg [(.mk (some 44) none (.call 24 [])), (.mk (some 12) none (.m (.pu (.mv (.t 44)))))]) .rt) .sk)) (.sq (.reg [(.mk (some 45) none (.m (.pu (.mv (.t 0))))), (.mk (some 46) none (.call 17 [(.t 45)])), (.mk (some 13) none (.m (.pu (.mv (.t 46)))))]) (.sq (.reg [(.mk (some 47) none (.m (.pu (.mv (.t 13))))), (.mk (some 48) none (.call 16 [(.t 47), (.c (.v (.int .i64 12)))])), (.mk (some 14) none (.m (.new [(.v (.slice none 0 0))]))), (.mk none none (.m (.st 1 (.t 14) (.t 48))))]) (.sq (.reg [(.mk (some 49) none (.m (.pu (.bd [(.v (.int .i64 0)), (.v (.int .i64 0)), (.v (.int .i64 0)), (.v (.int .i64 0)), (.v (.int .i64 0))] [])))), (.mk (some 15) none (.m (.new [(.v (.int .i64 0)), (.v (.int .i64 0)), (.v (.int .i64 0)), (.v (.int .i64 0)), (.v (.int .i64 0))]))), (.mk none none (.m (.st 5 (.t 15) (.t 49))))]) (.sq (.sq (.reg [(.mk (some 50) none (.m (.pu (.fa 0 (.t 14))))), (.mk (some 51) none (.m (.ld false 1 (.t 50)))), (.mk (some 52) none (.m (.pu (.len false (.t 51))))), (.mk (some 16) none (.m (.pu (.mv (.t 52)))))]) (.sq (.reg [(.mk (some 53) none (.m (.pu (.mv (.t 16))))), (.mk (some 54) none (.m (.pu (.bin false .gtr (.t 53) (.c (.v (.int .i64 0)))))))]) (.cd (.t 54) (.reg [(.mk (some 55) none (.m (.pu (.fa 0 (.t 14))))), (.mk (some 56) none (.m (.ld false 1 (.t 55)))), (.mk (some 57) none (.m (.pu (.mv (.t 16))))), (.mk (some 58) none (.m (.pu (.bin false .sub (.t 57) (.c (.v (.int .i64 1))))))), (.mk (some 59) none (.m (.pu (.ix 5 (.t 56) (.t 58))))), (.mk (some 60) none (.m (.ld true 5 (.t 59)))), (.mk none none (.m (.st 5 (.t 15) (.t 60))))]) .sk))) (.sq (.sq (.dr dr_law41_LedgerAll_0 [(0, [8]), (1, [46, 5046, 10046, 15046]), (2, [15]), (3, [46, 64, 5046, 5064, 10046, 10064, 15046, 15064]), (4, [15]), (5, [15]), (6, []), (7, [15]), (8, [15]), (9, []), (10, [15]), (11, [15]), (12, [15]), (13, [15]), (14, []), (15, []), (16, [15]), (17, [15]), (18, [15]), (19, [15]), (20, [46, 5046, 10046, 15046]), (21, []), (22, [46, 83, 5046, 5083, 10046, 10083, 15046, 15083]), (23, []), (24, []), (25, []), (26, [])] (.one 0 (.one 1 (.one 2 (.one 4 (.one 5 (.one 6 (.one 7 (.one 8 (.one 9 (.one 10 (.one 11 (.one 12 (.one 13 (.one 14 (.one 15 (.one 16 (.one 17 (.one 18 (.one 19 (.one 21 (.one 26 (.alt 3 (.of [20, 22, 23, 24, 25]) (.of [20, 3, 22, 23, 24, 25])))))))))))))))))))))))) (.bk 0 (.lp 1 fg_law41_LedgerAll_1 tb_law41_LedgerAll_1))) (.sq (.sq (.reg [(.mk (some 158) none (.m (.pu (.mv (.t 3))))), (.mk (some 159) none (.m (.pu (.mv (.t 4))))), (.mk (some 160) none (.m (.pu (.mv (.t 5))))), (.mk (some 161) none (.m (.pu (.bd [(.v (.int .i64 0)), (.v (.int .i64 0)), (.v (.int .i64 0))] [(0, 1, (.t 158)), (1, 1, (.t 159)), (2, 1, (.t 160))])))), (.mk (some 162) none (.m (.pu (.mv (.t 3))))), (.mk (some 163) none (.call 20 [(.t 162), (.c (.v (.int .i64 5)))])), (.mk (some 164) none (.m (.pu (.bin false .add (.c (.v (.int .i64 1))) (.t 163))))), (.mk (some 165) none (.m (.pu (.mv (.t 4))))), (.mk (some 166) none (.call 20 [(.t 165), (.c (.v (.int .i64 3)))])), (.mk (some 167) none (.m (.pu (.mv (.t 5))))), (.mk (some 168) none (.call 20 [(.t 167), (.c (.v (.int .i64 25)))])), (.mk (some 169) none (.m (.pu (.bd [(.v (.int .i64 0)), (.v (.int .i64 0)), (.v (.int .i64 0))] [(0, 1, (.t 164)), (1, 1, (.t 166)), (2, 1, (.t 168))])))), (.mk (some 170) none (.m (.bs 64 3 2 [(.v (.int .i64 0)), (.v (.int .i64 0)), (.v (.int .i64 0)), (.v (.int .i64 0)), (.v (.int .i64 0)), (.v (.int .i64 0))] [(0, 3, (.t 161)), (3, 3, (.t 169))]))), (.mk (some 171) none (.m (.pu (.len false (.t 170))))), (.mk (some 172) none (.m (.pu (.mv (.c (.v (.int .i64 0)))))))]) (.bk 4 (.lp 2 fg_law41_LedgerAll_2 tb_law41_LedgerAll_2))) (.sq (.reg [(.mk (some 246) none (.call 24 [])), (.mk (some 12) none (.m (.pu (.mv (.t 246)))))]) .rt)))))))))
def rv_law41_LedgerAll : List (RV × Option Ty) := [((.t 12), some .bool)]
abbrev sh_law41_LedgerAll_0 : Sh := ⟨[(3, .ty tI), (4, .ty tI), (5, .ty tI), (7, .ptr 7 0), (14, .ptr 14 0), (18, .ptr 18 0), (85, .ty (.sl tyDecision)), (86, .ty tI), (87, .ty tI), (93, .ty (.sl tyLedger)), (94, .ty tI), (95, .ty tI)], [(7, .box tyLedger), (14, .box tyLedger), (18, .box tyDecision)]⟩
def st_law41_LedgerAll_0 (x3 : Int) (x4 : Int) (x5 : Int) (x85 : (List Decision)) (x86 : Int) (x87 : Int) (x93 : (List Ledger)) (x94 : Int) (x95 : Int) (y7 : Ledger) (y14 : Ledger) (y18 : Decision) : VS := sh_law41_LedgerAll_0.st (x3, x4, x5, (), (), (), x85, x86, x87, x93, x94, x95, ()) (y7, y14, y18, ())
abbrev sh_law41_LedgerAll_0_ret : Sh := ⟨[(12, .ty .bool)], []⟩
def st_law41_LedgerAll_0_ret (x12 : Bool) : VS := sh_law41_LedgerAll_0_ret.st (x12, ()) ()
abbrev sh_law41_LedgerAll_0_e2 : Sh := ⟨[(3, .ty tI), (4, .ty tI), (5, .ty tI), (7, .ptr 7 0), (14, .ptr 14 0), (85, .ty (.sl tyDecision)), (86, .ty tI), (87, .ty tI)], [(7, .box tyLedger), (14, .box tyLedger)]⟩
def st_law41_LedgerAll_0_e2 (x3 : Int) (x4 : Int) (x5 : Int) (x85 : (List Decision)) (x86 : Int) (x87 : Int) (y7 : Ledger) (y14 : Ledger) : VS := sh_law41_LedgerAll_0_e2.st (x3, x4, x5, (), (), x85, x86, x87, ()) (y7, y14, ())
-- loop 0: (x3 : Int) (x4 : Int) (x5 : Int) (x85 : (List Decision)) (x86 : Int) (x87 : Int) (x93 : (List Ledger)) (x94 : Int) (x95 : Int) (y7 : Ledger) (y14 : Ledger) (y18 : Decision); out: ('ret',) (x12 : Bool); ('exit', 2) (x3 : Int) (x4 : Int) (x5 : Int) (x85 : (List Decision)) (x86 : Int) (x87 : Int) (y7 : Ledger) (y14 : Ledger)
abbrev sh_law41_LedgerAll_1 : Sh := ⟨[(3, .ty tI), (4, .ty tI), (5, .ty tI), (7, .ptr 7 0), (14, .ptr 14 0), (85, .ty (.sl tyDecision)), (86, .ty tI), (87, .ty tI)], [(7, .box tyLedger), (14, .box tyLedger)]⟩
def st_law41_LedgerAll_1 (x3 : Int) (x4 : Int) (x5 : Int) (x85 : (List Decision)) (x86 : Int) (x87 : Int) (y7 : Ledger) (y14 : Ledger) : VS := sh_law41_LedgerAll_1.st (x3, x4, x5, (), (), x85, x86, x87, ()) (y7, y14, ())
abbrev sh_law41_LedgerAll_1_e0 : Sh := ⟨[(3, .ty tI), (4, .ty tI), (5, .ty tI), (14, .ptr 14 0)], [(14, .box tyLedger)]⟩
def st_law41_LedgerAll_1_e0 (x3 : Int) (x4 : Int) (x5 : Int) (y14 : Ledger) : VS := sh_law41_LedgerAll_1_e0.st (x3, x4, x5, (), ()) (y14, ())
-- loop 1: (x3 : Int) (x4 : Int) (x5 : Int) (x85 : (List Decision)) (x86 : Int) (x87 : Int) (y7 : Ledger) (y14 : Ledger); out: ('exit', 0) (x3 : Int) (x4 : Int) (x5 : Int) (y14 : Ledger)
abbrev sh_law41_LedgerAll_2 : Sh := ⟨[(14, .ptr 14 0), (170, .ty (.sl (.pr tI (.pr tI (.pr tI .nil))))), (171, .ty tI), (172, .ty tI)], [(14, .box tyLedger)]⟩
def st_law41_LedgerAll_2 (x170 : (List (Int × (Int × (Int × Unit))))) (x171 : Int) (x172 : Int) (y14 : Ledger) : VS := sh_law41_LedgerAll_2.st ((), x170, x171, x172, ()) (y14, ())
abbrev sh_law41_LedgerAll_2_ret : Sh := ⟨[(12, .ty .bool)], []⟩
def st_law41_LedgerAll_2_ret (x12 : Bool) : VS := sh_law41_LedgerAll_2_ret.st (x12, ()) ()
abbrev sh_law41_LedgerAll_2_e4 : Sh := ⟨[], []⟩
def st_law41_LedgerAll_2_e4  : VS := sh_law41_LedgerAll_2_e4.st () ()
-- loop 2: (x170 : (List (Int × (Int × (Int × Unit))))) (x171 : Int) (x172 : Int) (y14 : Ledger); out: ('ret',) (x12 : Bool); ('exit', 4) 
def L_law41_LedgerAll_0 : VS → Option (Bool × List (Bool × Exit × VS)) := mkL sh_law41_LedgerAll_0 (fun x y => (rngOk x.2.2.2.2.2.2.2.2.2.1 x.2.2.2.2.2.2.2.2.2.2.1 x.2.2.2.2.2.2.2.2.2.2.2.1 && smallL x.2.2.2.2.2.2.2.2.2.1 && genB y.2.1)) (fun x y => [(true, .exit 2, st_law41_LedgerAll_0_e2 (x.1) (x.2.1) (x.2.2.1) (x.2.2.2.2.2.2.1) (x.2.2.2.2.2.2.2.1) (x.2.2.2.2.2.2.2.2.1) (y.1) (y.2.1))])
def L_law41_LedgerAll_1 : VS → Option (Bool × List (Bool × Exit × VS)) := mkL sh_law41_LedgerAll_1 (fun x y => (rngOk x.2.2.2.2.2.1 x.2.2.2.2.2.2.1 x.2.2.2.2.2.2.2.1 && decide (y.1.1.length ≤ 140) && genB y.2.1)) (fun x y => [(true, .exit 0, st_law41_LedgerAll_1_e0 (x.1) (x.2.1) (x.2.2.1) (y.2.1))])
def L_law41_LedgerAll_2 : VS → Option (Bool × List (Bool × Exit × VS)) := mkL sh_law41_LedgerAll_2 (fun x y => (rngOk x.2.1 x.2.2.1 x.2.2.2.1 && genB y.1)) (fun x y => [(true, .exit 4, st_law41_LedgerAll_2_e4)])
def g_law41_LedgerAll : G := ⟨TYs, [], 247, EL [(15, sp_make_Light), (16, sp_move_Ledger), (17, sp_make_Roll), (20, sp_make_Mod), (24, sp_law41_awake), (26, sp_ledger_Add), (27, sp_ledger_Latest), (28, sp_ledger_Known), (29, sp_move_Decision), (30, sp_ledger_Same), (31, sp_ref41_Same), (32, sp_ledger_Check), (33, sp_ledger_Changed), (34, sp_ledger_Then), (35, sp_ledger_Differ), (36, sp_make_Dice_Of), (37, sp_ref41_Add), (38, sp_ref41_Check), (39, sp_ref41_Differ), (40, sp_ref41_Latest), (41, sp_ref41_Known), (42, sp_ref41_Then), (43, sp_ref26_SameInts), (44, sp_ref41_Changed)], keeps, (Ls [L_law41_LedgerAll_0, L_law41_LedgerAll_1, L_law41_LedgerAll_2])⟩
def b_law41_LedgerAll_0 (x3 : Int) (x4 : Int) (x5 : Int) (x85 : (List Decision)) (x86 : Int) (x87 : Int) (x93 : (List Ledger)) (x94 : Int) (x95 : Int) (y7 : Ledger) (y14 : Ledger) (y18 : Decision) : Option (Exit × VS) :=
  br ((ilt x95 x94))
    (br (cIx x93 x95)
      (br ((addOk (lgt tyLedger x93 (Int.toNat x95)) y18))
        (br ((addOk (lgt tyLedger x93 (Int.toNat x95)) y18))
          (br ((ine ((addV (lgt tyLedger x93 (Int.toNat x95)) y18).2) ((addV (lgt tyLedger x93 (Int.toNat x95)) y18).2)))
            (some (.ret, st_law41_LedgerAll_0_ret false))
            (br ((sameOk ((addV (lgt tyLedger x93 (Int.toNat x95)) y18).1) ((addV (lgt tyLedger x93 (Int.toNat x95)) y18).1)))
              (br ((!(sameV ((addV (lgt tyLedger x93 (Int.toNat x95)) y18).1) ((addV (lgt tyLedger x93 (Int.toNat x95)) y18).1))))
                (some (.ret, st_law41_LedgerAll_0_ret false))
                (br ((lenOk (lgt tyLedger x93 (Int.toNat x95))))
                  (br ((lenOk (lgt tyLedger x93 (Int.toNat x95))))
                    (br ((ine (checkV (lgt tyLedger x93 (Int.toNat x95))) (checkV (lgt tyLedger x93 (Int.toNat x95)))))
                      (some (.ret, st_law41_LedgerAll_0_ret false))
                      (br ((sameOk ((addV (lgt tyLedger x93 (Int.toNat x95)) y18).1) y14))
                        (br ((sameOk ((addV (lgt tyLedger x93 (Int.toNat x95)) y18).1) y14))
                          (br ((bneq (sameV ((addV (lgt tyLedger x93 (Int.toNat x95)) y18).1) y14) (sameV ((addV (lgt tyLedger x93 (Int.toNat x95)) y18).1) y14)))
                            (some (.ret, st_law41_LedgerAll_0_ret false))
                            (br ((sameOk ((addV (lgt tyLedger x93 (Int.toNat x95)) y18).1) y14))
                              (br ((sameOk ((addV (lgt tyLedger x93 (Int.toNat x95)) y18).1) y14))
                                (br ((ine ((differV ((addV (lgt tyLedger x93 (Int.toNat x95)) y18).1) y14).1) ((differV ((addV (lgt tyLedger x93 (Int.toNat x95)) y18).1) y14).1)))
                                  (some (.ret, st_law41_LedgerAll_0_ret false))
                                  (br ((bneq ((differV ((addV (lgt tyLedger x93 (Int.toNat x95)) y18).1) y14).2) ((differV ((addV (lgt tyLedger x93 (Int.toNat x95)) y18).1) y14).2)))
                                    (some (.ret, st_law41_LedgerAll_0_ret false))
                                    (some (.normal, st_law41_LedgerAll_0 x3 x4 x5 x85 x86 x87 x93 x94 (iadd .i64 x95 1) y7 y14 y18))))
                                (none))
                              (none)))
                          (none))
                        (none)))
                    (none))
                  (none)))
              (none)))
          (none))
        (none))
      (none))
    (some (.exit 2, st_law41_LedgerAll_0_e2 x3 x4 x5 x85 x86 x87 y7 y14))
noncomputable def lp_law41_LedgerAll_0 (x3 : Int) (x4 : Int) (x5 : Int) (x85 : (List Decision)) (x86 : Int) (x87 : Int) (x93 : (List Ledger)) (x94 : Int) (x95 : Int) (y7 : Ledger) (y14 : Ledger) (y18 : Decision) : Option (Exit × VS) := loopF (roundF g_law41_LedgerAll fg_law41_LedgerAll_0 tb_law41_LedgerAll_0) (st_law41_LedgerAll_0 x3 x4 x5 x85 x86 x87 x93 x94 x95 y7 y14 y18)
noncomputable def n_law41_LedgerAll_0 (x3 : Int) (x4 : Int) (x5 : Int) (x85 : (List Decision)) (x86 : Int) (x87 : Int) (x93 : (List Ledger)) (x94 : Int) (x95 : Int) (y7 : Ledger) (y14 : Ledger) (y18 : Decision) : Option (Exit × VS) :=
  br ((ilt x95 x94))
    (br (cIx x93 x95)
      (br ((addOk (lgt tyLedger x93 (Int.toNat x95)) y18))
        (br ((addOk (lgt tyLedger x93 (Int.toNat x95)) y18))
          (br ((ine ((addV (lgt tyLedger x93 (Int.toNat x95)) y18).2) ((addV (lgt tyLedger x93 (Int.toNat x95)) y18).2)))
            (some (.ret, st_law41_LedgerAll_0_ret false))
            (br ((sameOk ((addV (lgt tyLedger x93 (Int.toNat x95)) y18).1) ((addV (lgt tyLedger x93 (Int.toNat x95)) y18).1)))
              (br ((!(sameV ((addV (lgt tyLedger x93 (Int.toNat x95)) y18).1) ((addV (lgt tyLedger x93 (Int.toNat x95)) y18).1))))
                (some (.ret, st_law41_LedgerAll_0_ret false))
                (br ((lenOk (lgt tyLedger x93 (Int.toNat x95))))
                  (br ((lenOk (lgt tyLedger x93 (Int.toNat x95))))
                    (br ((ine (checkV (lgt tyLedger x93 (Int.toNat x95))) (checkV (lgt tyLedger x93 (Int.toNat x95)))))
                      (some (.ret, st_law41_LedgerAll_0_ret false))
                      (br ((sameOk ((addV (lgt tyLedger x93 (Int.toNat x95)) y18).1) y14))
                        (br ((sameOk ((addV (lgt tyLedger x93 (Int.toNat x95)) y18).1) y14))
                          (br ((bneq (sameV ((addV (lgt tyLedger x93 (Int.toNat x95)) y18).1) y14) (sameV ((addV (lgt tyLedger x93 (Int.toNat x95)) y18).1) y14)))
                            (some (.ret, st_law41_LedgerAll_0_ret false))
                            (br ((sameOk ((addV (lgt tyLedger x93 (Int.toNat x95)) y18).1) y14))
                              (br ((sameOk ((addV (lgt tyLedger x93 (Int.toNat x95)) y18).1) y14))
                                (br ((ine ((differV ((addV (lgt tyLedger x93 (Int.toNat x95)) y18).1) y14).1) ((differV ((addV (lgt tyLedger x93 (Int.toNat x95)) y18).1) y14).1)))
                                  (some (.ret, st_law41_LedgerAll_0_ret false))
                                  (br ((bneq ((differV ((addV (lgt tyLedger x93 (Int.toNat x95)) y18).1) y14).2) ((differV ((addV (lgt tyLedger x93 (Int.toNat x95)) y18).1) y14).2)))
                                    (some (.ret, st_law41_LedgerAll_0_ret false))
                                    (lp_law41_LedgerAll_0 x3 x4 x5 x85 x86 x87 x93 x94 (iadd .i64 x95 1) y7 y14 y18)))
                                (none))
                              (none)))
                          (none))
                        (none)))
                    (none))
                  (none)))
              (none)))
          (none))
        (none))
      (none))
    (some (.exit 2, st_law41_LedgerAll_0_e2 x3 x4 x5 x85 x86 x87 y7 y14))
def la_law41_LedgerAll_0 (x3 : Int) (x4 : Int) (x5 : Int) (x85 : (List Decision)) (x86 : Int) (x87 : Int) (x93 : (List Ledger)) (x94 : Int) (x95 : Int) (y7 : Ledger) (y14 : Ledger) (y18 : Decision) : Option (Exit × VS) := some (.exit 2, st_law41_LedgerAll_0_e2 (x3) (x4) (x5) (x85) (x86) (x87) (y7) (y14))
theorem be_law41_LedgerAll_0 (x3 : Int) (x4 : Int) (x5 : Int) (x85 : (List Decision)) (x86 : Int) (x87 : Int) (x93 : (List Ledger)) (x94 : Int) (x95 : Int) (y7 : Ledger) (y14 : Ledger) (y18 : Decision) : roundF g_law41_LedgerAll fg_law41_LedgerAll_0 tb_law41_LedgerAll_0 (st_law41_LedgerAll_0 x3 x4 x5 x85 x86 x87 x93 x94 x95 y7 y14 y18) = b_law41_LedgerAll_0 x3 x4 x5 x85 x86 x87 x93 x94 x95 y7 y14 y18 := by kernel_rfl
theorem ln_law41_LedgerAll_0 (x3 : Int) (x4 : Int) (x5 : Int) (x85 : (List Decision)) (x86 : Int) (x87 : Int) (x93 : (List Ledger)) (x94 : Int) (x95 : Int) (y7 : Ledger) (y14 : Ledger) (y18 : Decision) : lp_law41_LedgerAll_0 x3 x4 x5 x85 x86 x87 x93 x94 x95 y7 y14 y18 = n_law41_LedgerAll_0 x3 x4 x5 x85 x86 x87 x93 x94 x95 y7 y14 y18 := (loopF_nxt _ _).trans (by
  rw [be_law41_LedgerAll_0]
  simp only [b_law41_LedgerAll_0, n_law41_LedgerAll_0, nxt_br, nxt_n, nxt_r, nxt_e, nxt_0]
  rfl)
def b_law41_LedgerAll_1 (x3 : Int) (x4 : Int) (x5 : Int) (x85 : (List Decision)) (x86 : Int) (x87 : Int) (y7 : Ledger) (y14 : Ledger) : Option (Exit × VS) :=
  br ((ilt x87 x86))
    (br (cIx x85 x87)
      (br ((rngOk ([(y14.1, ()), (y7.1, ())]) (llen ([(y14.1, ()), (y7.1, ())])) (0 : Int) && smallL ([(y14.1, ()), (y7.1, ())]) && genB y14))
        (some (.normal, st_law41_LedgerAll_1 (x3) (x4) (x5) (x85) (x86) (iadd .i64 (x87) 1) (y7) (y14)))
        (none))
      (none))
    (some (.exit 0, st_law41_LedgerAll_1_e0 x3 x4 x5 y14))
noncomputable def lp_law41_LedgerAll_1 (x3 : Int) (x4 : Int) (x5 : Int) (x85 : (List Decision)) (x86 : Int) (x87 : Int) (y7 : Ledger) (y14 : Ledger) : Option (Exit × VS) := loopF (roundF g_law41_LedgerAll fg_law41_LedgerAll_1 tb_law41_LedgerAll_1) (st_law41_LedgerAll_1 x3 x4 x5 x85 x86 x87 y7 y14)
noncomputable def n_law41_LedgerAll_1 (x3 : Int) (x4 : Int) (x5 : Int) (x85 : (List Decision)) (x86 : Int) (x87 : Int) (y7 : Ledger) (y14 : Ledger) : Option (Exit × VS) :=
  br ((ilt x87 x86))
    (br (cIx x85 x87)
      (br ((rngOk ([(y14.1, ()), (y7.1, ())]) (llen ([(y14.1, ()), (y7.1, ())])) (0 : Int) && smallL ([(y14.1, ()), (y7.1, ())]) && genB y14))
        (lp_law41_LedgerAll_1 (x3) (x4) (x5) (x85) (x86) (iadd .i64 (x87) 1) (y7) (y14))
        (none))
      (none))
    (some (.exit 0, st_law41_LedgerAll_1_e0 x3 x4 x5 y14))
def la_law41_LedgerAll_1 (x3 : Int) (x4 : Int) (x5 : Int) (x85 : (List Decision)) (x86 : Int) (x87 : Int) (y7 : Ledger) (y14 : Ledger) : Option (Exit × VS) := some (.exit 0, st_law41_LedgerAll_1_e0 (x3) (x4) (x5) (y14))
theorem be_law41_LedgerAll_1 (x3 : Int) (x4 : Int) (x5 : Int) (x85 : (List Decision)) (x86 : Int) (x87 : Int) (y7 : Ledger) (y14 : Ledger) : roundF g_law41_LedgerAll fg_law41_LedgerAll_1 tb_law41_LedgerAll_1 (st_law41_LedgerAll_1 x3 x4 x5 x85 x86 x87 y7 y14) = b_law41_LedgerAll_1 x3 x4 x5 x85 x86 x87 y7 y14 := by kernel_rfl
theorem ln_law41_LedgerAll_1 (x3 : Int) (x4 : Int) (x5 : Int) (x85 : (List Decision)) (x86 : Int) (x87 : Int) (y7 : Ledger) (y14 : Ledger) : lp_law41_LedgerAll_1 x3 x4 x5 x85 x86 x87 y7 y14 = n_law41_LedgerAll_1 x3 x4 x5 x85 x86 x87 y7 y14 := (loopF_nxt _ _).trans (by
  rw [be_law41_LedgerAll_1]
  simp only [b_law41_LedgerAll_1, n_law41_LedgerAll_1, nxt_br, nxt_n, nxt_r, nxt_e, nxt_0]
  rfl)
def b_law41_LedgerAll_2 (x170 : (List (Int × (Int × (Int × Unit))))) (x171 : Int) (x172 : Int) (y14 : Ledger) : Option (Exit × VS) :=
  br ((ilt x172 x171))
    (br (cIx x170 x172)
      (br ((latestOk y14 ((lgt (.pr tI (.pr tI (.pr tI .nil))) x170 (Int.toNat x172)).1) (((lgt (.pr tI (.pr tI (.pr tI .nil))) x170 (Int.toNat x172)).2).1) ((((lgt (.pr tI (.pr tI (.pr tI .nil))) x170 (Int.toNat x172)).2).2).1)))
        (br ((lenOk4 y14 ((lgt (.pr tI (.pr tI (.pr tI .nil))) x170 (Int.toNat x172)).1) (((lgt (.pr tI (.pr tI (.pr tI .nil))) x170 (Int.toNat x172)).2).1) ((((lgt (.pr tI (.pr tI (.pr tI .nil))) x170 (Int.toNat x172)).2).2).1)))
          (br ((!(and (ieq (((latestV y14 ((lgt (.pr tI (.pr tI (.pr tI .nil))) x170 (Int.toNat x172)).1) (((lgt (.pr tI (.pr tI (.pr tI .nil))) x170 (Int.toNat x172)).2).1) ((((lgt (.pr tI (.pr tI (.pr tI .nil))) x170 (Int.toNat x172)).2).2).1)).1).1) (((refLatest y14 ((lgt (.pr tI (.pr tI (.pr tI .nil))) x170 (Int.toNat x172)).1) (((lgt (.pr tI (.pr tI (.pr tI .nil))) x170 (Int.toNat x172)).2).1) ((((lgt (.pr tI (.pr tI (.pr tI .nil))) x170 (Int.toNat x172)).2).2).1)).1).1)) (and (ieq ((((latestV y14 ((lgt (.pr tI (.pr tI (.pr tI .nil))) x170 (Int.toNat x172)).1) (((lgt (.pr tI (.pr tI (.pr tI .nil))) x170 (Int.toNat x172)).2).1) ((((lgt (.pr tI (.pr tI (.pr tI .nil))) x170 (Int.toNat x172)).2).2).1)).1).2).1) ((((refLatest y14 ((lgt (.pr tI (.pr tI (.pr tI .nil))) x170 (Int.toNat x172)).1) (((lgt (.pr tI (.pr tI (.pr tI .nil))) x170 (Int.toNat x172)).2).1) ((((lgt (.pr tI (.pr tI (.pr tI .nil))) x170 (Int.toNat x172)).2).2).1)).1).2).1)) (and (ieq (((((latestV y14 ((lgt (.pr tI (.pr tI (.pr tI .nil))) x170 (Int.toNat x172)).1) (((lgt (.pr tI (.pr tI (.pr tI .nil))) x170 (Int.toNat x172)).2).1) ((((lgt (.pr tI (.pr tI (.pr tI .nil))) x170 (Int.toNat x172)).2).2).1)).1).2).2).1) (((((refLatest y14 ((lgt (.pr tI (.pr tI (.pr tI .nil))) x170 (Int.toNat x172)).1) (((lgt (.pr tI (.pr tI (.pr tI .nil))) x170 (Int.toNat x172)).2).1) ((((lgt (.pr tI (.pr tI (.pr tI .nil))) x170 (Int.toNat x172)).2).2).1)).1).2).2).1)) (and (ieq ((((((latestV y14 ((lgt (.pr tI (.pr tI (.pr tI .nil))) x170 (Int.toNat x172)).1) (((lgt (.pr tI (.pr tI (.pr tI .nil))) x170 (Int.toNat x172)).2).1) ((((lgt (.pr tI (.pr tI (.pr tI .nil))) x170 (Int.toNat x172)).2).2).1)).1).2).2).2).1) ((((((refLatest y14 ((lgt (.pr tI (.pr tI (.pr tI .nil))) x170 (Int.toNat x172)).1) (((lgt (.pr tI (.pr tI (.pr tI .nil))) x170 (Int.toNat x172)).2).1) ((((lgt (.pr tI (.pr tI (.pr tI .nil))) x170 (Int.toNat x172)).2).2).1)).1).2).2).2).1)) (and (ieq (((((((latestV y14 ((lgt (.pr tI (.pr tI (.pr tI .nil))) x170 (Int.toNat x172)).1) (((lgt (.pr tI (.pr tI (.pr tI .nil))) x170 (Int.toNat x172)).2).1) ((((lgt (.pr tI (.pr tI (.pr tI .nil))) x170 (Int.toNat x172)).2).2).1)).1).2).2).2).2).1) (((((((refLatest y14 ((lgt (.pr tI (.pr tI (.pr tI .nil))) x170 (Int.toNat x172)).1) (((lgt (.pr tI (.pr tI (.pr tI .nil))) x170 (Int.toNat x172)).2).1) ((((lgt (.pr tI (.pr tI (.pr tI .nil))) x170 (Int.toNat x172)).2).2).1)).1).2).2).2).2).1)) true)))))))
            (some (.ret, st_law41_LedgerAll_2_ret false))
            (br ((bneq ((latestV y14 ((lgt (.pr tI (.pr tI (.pr tI .nil))) x170 (Int.toNat x172)).1) (((lgt (.pr tI (.pr tI (.pr tI .nil))) x170 (Int.toNat x172)).2).1) ((((lgt (.pr tI (.pr tI (.pr tI .nil))) x170 (Int.toNat x172)).2).2).1)).2) ((refLatest y14 ((lgt (.pr tI (.pr tI (.pr tI .nil))) x170 (Int.toNat x172)).1) (((lgt (.pr tI (.pr tI (.pr tI .nil))) x170 (Int.toNat x172)).2).1) ((((lgt (.pr tI (.pr tI (.pr tI .nil))) x170 (Int.toNat x172)).2).2).1)).2)))
              (some (.ret, st_law41_LedgerAll_2_ret false))
              (br ((dayOk y14 ((((lgt (.pr tI (.pr tI (.pr tI .nil))) x170 (Int.toNat x172)).2).2).1)))
                (br ((lenOk2 y14 ((((lgt (.pr tI (.pr tI (.pr tI .nil))) x170 (Int.toNat x172)).2).2).1)))
                  (br ((ine (knownV y14 ((((lgt (.pr tI (.pr tI (.pr tI .nil))) x170 (Int.toNat x172)).2).2).1)) (refKnown y14 ((((lgt (.pr tI (.pr tI (.pr tI .nil))) x170 (Int.toNat x172)).2).2).1))))
                    (some (.ret, st_law41_LedgerAll_2_ret false))
                    (br ((dayOk y14 ((((lgt (.pr tI (.pr tI (.pr tI .nil))) x170 (Int.toNat x172)).2).2).1)))
                      (br ((lenOk2 y14 ((((lgt (.pr tI (.pr tI (.pr tI .nil))) x170 (Int.toNat x172)).2).2).1)))
                        (br ((sameOk (thenV y14 ((((lgt (.pr tI (.pr tI (.pr tI .nil))) x170 (Int.toNat x172)).2).2).1)) (refThen y14 ((((lgt (.pr tI (.pr tI (.pr tI .nil))) x170 (Int.toNat x172)).2).2).1))))
                          (br ((!(sameV (thenV y14 ((((lgt (.pr tI (.pr tI (.pr tI .nil))) x170 (Int.toNat x172)).2).2).1)) (refThen y14 ((((lgt (.pr tI (.pr tI (.pr tI .nil))) x170 (Int.toNat x172)).2).2).1)))))
                            (some (.ret, st_law41_LedgerAll_2_ret false))
                            (br ((changedOk y14 ((lgt (.pr tI (.pr tI (.pr tI .nil))) x170 (Int.toNat x172)).1) (((lgt (.pr tI (.pr tI (.pr tI .nil))) x170 (Int.toNat x172)).2).1)))
                              (br ((changedOk y14 ((lgt (.pr tI (.pr tI (.pr tI .nil))) x170 (Int.toNat x172)).1) (((lgt (.pr tI (.pr tI (.pr tI .nil))) x170 (Int.toNat x172)).2).1)))
                                (br ((sameIsOk (changedV y14 ((lgt (.pr tI (.pr tI (.pr tI .nil))) x170 (Int.toNat x172)).1) (((lgt (.pr tI (.pr tI (.pr tI .nil))) x170 (Int.toNat x172)).2).1)) (changedV y14 ((lgt (.pr tI (.pr tI (.pr tI .nil))) x170 (Int.toNat x172)).1) (((lgt (.pr tI (.pr tI (.pr tI .nil))) x170 (Int.toNat x172)).2).1))))
                                  (br ((!(sameIs (changedV y14 ((lgt (.pr tI (.pr tI (.pr tI .nil))) x170 (Int.toNat x172)).1) (((lgt (.pr tI (.pr tI (.pr tI .nil))) x170 (Int.toNat x172)).2).1)) (changedV y14 ((lgt (.pr tI (.pr tI (.pr tI .nil))) x170 (Int.toNat x172)).1) (((lgt (.pr tI (.pr tI (.pr tI .nil))) x170 (Int.toNat x172)).2).1)))))
                                    (some (.ret, st_law41_LedgerAll_2_ret false))
                                    (some (.normal, st_law41_LedgerAll_2 x170 x171 (iadd .i64 x172 1) y14)))
                                  (none))
                                (none))
                              (none)))
                          (none))
                        (none))
                      (none)))
                  (none))
                (none))))
          (none))
        (none))
      (none))
    (some (.exit 4, st_law41_LedgerAll_2_e4))
noncomputable def lp_law41_LedgerAll_2 (x170 : (List (Int × (Int × (Int × Unit))))) (x171 : Int) (x172 : Int) (y14 : Ledger) : Option (Exit × VS) := loopF (roundF g_law41_LedgerAll fg_law41_LedgerAll_2 tb_law41_LedgerAll_2) (st_law41_LedgerAll_2 x170 x171 x172 y14)
noncomputable def n_law41_LedgerAll_2 (x170 : (List (Int × (Int × (Int × Unit))))) (x171 : Int) (x172 : Int) (y14 : Ledger) : Option (Exit × VS) :=
  br ((ilt x172 x171))
    (br (cIx x170 x172)
      (br ((latestOk y14 ((lgt (.pr tI (.pr tI (.pr tI .nil))) x170 (Int.toNat x172)).1) (((lgt (.pr tI (.pr tI (.pr tI .nil))) x170 (Int.toNat x172)).2).1) ((((lgt (.pr tI (.pr tI (.pr tI .nil))) x170 (Int.toNat x172)).2).2).1)))
        (br ((lenOk4 y14 ((lgt (.pr tI (.pr tI (.pr tI .nil))) x170 (Int.toNat x172)).1) (((lgt (.pr tI (.pr tI (.pr tI .nil))) x170 (Int.toNat x172)).2).1) ((((lgt (.pr tI (.pr tI (.pr tI .nil))) x170 (Int.toNat x172)).2).2).1)))
          (br ((!(and (ieq (((latestV y14 ((lgt (.pr tI (.pr tI (.pr tI .nil))) x170 (Int.toNat x172)).1) (((lgt (.pr tI (.pr tI (.pr tI .nil))) x170 (Int.toNat x172)).2).1) ((((lgt (.pr tI (.pr tI (.pr tI .nil))) x170 (Int.toNat x172)).2).2).1)).1).1) (((refLatest y14 ((lgt (.pr tI (.pr tI (.pr tI .nil))) x170 (Int.toNat x172)).1) (((lgt (.pr tI (.pr tI (.pr tI .nil))) x170 (Int.toNat x172)).2).1) ((((lgt (.pr tI (.pr tI (.pr tI .nil))) x170 (Int.toNat x172)).2).2).1)).1).1)) (and (ieq ((((latestV y14 ((lgt (.pr tI (.pr tI (.pr tI .nil))) x170 (Int.toNat x172)).1) (((lgt (.pr tI (.pr tI (.pr tI .nil))) x170 (Int.toNat x172)).2).1) ((((lgt (.pr tI (.pr tI (.pr tI .nil))) x170 (Int.toNat x172)).2).2).1)).1).2).1) ((((refLatest y14 ((lgt (.pr tI (.pr tI (.pr tI .nil))) x170 (Int.toNat x172)).1) (((lgt (.pr tI (.pr tI (.pr tI .nil))) x170 (Int.toNat x172)).2).1) ((((lgt (.pr tI (.pr tI (.pr tI .nil))) x170 (Int.toNat x172)).2).2).1)).1).2).1)) (and (ieq (((((latestV y14 ((lgt (.pr tI (.pr tI (.pr tI .nil))) x170 (Int.toNat x172)).1) (((lgt (.pr tI (.pr tI (.pr tI .nil))) x170 (Int.toNat x172)).2).1) ((((lgt (.pr tI (.pr tI (.pr tI .nil))) x170 (Int.toNat x172)).2).2).1)).1).2).2).1) (((((refLatest y14 ((lgt (.pr tI (.pr tI (.pr tI .nil))) x170 (Int.toNat x172)).1) (((lgt (.pr tI (.pr tI (.pr tI .nil))) x170 (Int.toNat x172)).2).1) ((((lgt (.pr tI (.pr tI (.pr tI .nil))) x170 (Int.toNat x172)).2).2).1)).1).2).2).1)) (and (ieq ((((((latestV y14 ((lgt (.pr tI (.pr tI (.pr tI .nil))) x170 (Int.toNat x172)).1) (((lgt (.pr tI (.pr tI (.pr tI .nil))) x170 (Int.toNat x172)).2).1) ((((lgt (.pr tI (.pr tI (.pr tI .nil))) x170 (Int.toNat x172)).2).2).1)).1).2).2).2).1) ((((((refLatest y14 ((lgt (.pr tI (.pr tI (.pr tI .nil))) x170 (Int.toNat x172)).1) (((lgt (.pr tI (.pr tI (.pr tI .nil))) x170 (Int.toNat x172)).2).1) ((((lgt (.pr tI (.pr tI (.pr tI .nil))) x170 (Int.toNat x172)).2).2).1)).1).2).2).2).1)) (and (ieq (((((((latestV y14 ((lgt (.pr tI (.pr tI (.pr tI .nil))) x170 (Int.toNat x172)).1) (((lgt (.pr tI (.pr tI (.pr tI .nil))) x170 (Int.toNat x172)).2).1) ((((lgt (.pr tI (.pr tI (.pr tI .nil))) x170 (Int.toNat x172)).2).2).1)).1).2).2).2).2).1) (((((((refLatest y14 ((lgt (.pr tI (.pr tI (.pr tI .nil))) x170 (Int.toNat x172)).1) (((lgt (.pr tI (.pr tI (.pr tI .nil))) x170 (Int.toNat x172)).2).1) ((((lgt (.pr tI (.pr tI (.pr tI .nil))) x170 (Int.toNat x172)).2).2).1)).1).2).2).2).2).1)) true)))))))
            (some (.ret, st_law41_LedgerAll_2_ret false))
            (br ((bneq ((latestV y14 ((lgt (.pr tI (.pr tI (.pr tI .nil))) x170 (Int.toNat x172)).1) (((lgt (.pr tI (.pr tI (.pr tI .nil))) x170 (Int.toNat x172)).2).1) ((((lgt (.pr tI (.pr tI (.pr tI .nil))) x170 (Int.toNat x172)).2).2).1)).2) ((refLatest y14 ((lgt (.pr tI (.pr tI (.pr tI .nil))) x170 (Int.toNat x172)).1) (((lgt (.pr tI (.pr tI (.pr tI .nil))) x170 (Int.toNat x172)).2).1) ((((lgt (.pr tI (.pr tI (.pr tI .nil))) x170 (Int.toNat x172)).2).2).1)).2)))
              (some (.ret, st_law41_LedgerAll_2_ret false))
              (br ((dayOk y14 ((((lgt (.pr tI (.pr tI (.pr tI .nil))) x170 (Int.toNat x172)).2).2).1)))
                (br ((lenOk2 y14 ((((lgt (.pr tI (.pr tI (.pr tI .nil))) x170 (Int.toNat x172)).2).2).1)))
                  (br ((ine (knownV y14 ((((lgt (.pr tI (.pr tI (.pr tI .nil))) x170 (Int.toNat x172)).2).2).1)) (refKnown y14 ((((lgt (.pr tI (.pr tI (.pr tI .nil))) x170 (Int.toNat x172)).2).2).1))))
                    (some (.ret, st_law41_LedgerAll_2_ret false))
                    (br ((dayOk y14 ((((lgt (.pr tI (.pr tI (.pr tI .nil))) x170 (Int.toNat x172)).2).2).1)))
                      (br ((lenOk2 y14 ((((lgt (.pr tI (.pr tI (.pr tI .nil))) x170 (Int.toNat x172)).2).2).1)))
                        (br ((sameOk (thenV y14 ((((lgt (.pr tI (.pr tI (.pr tI .nil))) x170 (Int.toNat x172)).2).2).1)) (refThen y14 ((((lgt (.pr tI (.pr tI (.pr tI .nil))) x170 (Int.toNat x172)).2).2).1))))
                          (br ((!(sameV (thenV y14 ((((lgt (.pr tI (.pr tI (.pr tI .nil))) x170 (Int.toNat x172)).2).2).1)) (refThen y14 ((((lgt (.pr tI (.pr tI (.pr tI .nil))) x170 (Int.toNat x172)).2).2).1)))))
                            (some (.ret, st_law41_LedgerAll_2_ret false))
                            (br ((changedOk y14 ((lgt (.pr tI (.pr tI (.pr tI .nil))) x170 (Int.toNat x172)).1) (((lgt (.pr tI (.pr tI (.pr tI .nil))) x170 (Int.toNat x172)).2).1)))
                              (br ((changedOk y14 ((lgt (.pr tI (.pr tI (.pr tI .nil))) x170 (Int.toNat x172)).1) (((lgt (.pr tI (.pr tI (.pr tI .nil))) x170 (Int.toNat x172)).2).1)))
                                (br ((sameIsOk (changedV y14 ((lgt (.pr tI (.pr tI (.pr tI .nil))) x170 (Int.toNat x172)).1) (((lgt (.pr tI (.pr tI (.pr tI .nil))) x170 (Int.toNat x172)).2).1)) (changedV y14 ((lgt (.pr tI (.pr tI (.pr tI .nil))) x170 (Int.toNat x172)).1) (((lgt (.pr tI (.pr tI (.pr tI .nil))) x170 (Int.toNat x172)).2).1))))
                                  (br ((!(sameIs (changedV y14 ((lgt (.pr tI (.pr tI (.pr tI .nil))) x170 (Int.toNat x172)).1) (((lgt (.pr tI (.pr tI (.pr tI .nil))) x170 (Int.toNat x172)).2).1)) (changedV y14 ((lgt (.pr tI (.pr tI (.pr tI .nil))) x170 (Int.toNat x172)).1) (((lgt (.pr tI (.pr tI (.pr tI .nil))) x170 (Int.toNat x172)).2).1)))))
                                    (some (.ret, st_law41_LedgerAll_2_ret false))
                                    (lp_law41_LedgerAll_2 x170 x171 (iadd .i64 x172 1) y14))
                                  (none))
                                (none))
                              (none)))
                          (none))
                        (none))
                      (none)))
                  (none))
                (none))))
          (none))
        (none))
      (none))
    (some (.exit 4, st_law41_LedgerAll_2_e4))
def la_law41_LedgerAll_2 (x170 : (List (Int × (Int × (Int × Unit))))) (x171 : Int) (x172 : Int) (y14 : Ledger) : Option (Exit × VS) := some (.exit 4, st_law41_LedgerAll_2_e4)
theorem be_law41_LedgerAll_2 (x170 : (List (Int × (Int × (Int × Unit))))) (x171 : Int) (x172 : Int) (y14 : Ledger) : roundF g_law41_LedgerAll fg_law41_LedgerAll_2 tb_law41_LedgerAll_2 (st_law41_LedgerAll_2 x170 x171 x172 y14) = b_law41_LedgerAll_2 x170 x171 x172 y14 := by kernel_rfl
theorem ln_law41_LedgerAll_2 (x170 : (List (Int × (Int × (Int × Unit))))) (x171 : Int) (x172 : Int) (y14 : Ledger) : lp_law41_LedgerAll_2 x170 x171 x172 y14 = n_law41_LedgerAll_2 x170 x171 x172 y14 := (loopF_nxt _ _).trans (by
  rw [be_law41_LedgerAll_2]
  simp only [b_law41_LedgerAll_2, n_law41_LedgerAll_2, nxt_br, nxt_n, nxt_r, nxt_e, nxt_0]
  rfl)
def r_law41_LedgerAll_2 (p0 : (List Int)) (p1 : Ledger) (p2 : Decision) (p3 : Int) (p4 : Int) (p5 : Int) : Option (V × List VO) :=
  br ((dmodOk (p3) 5))
    (br ((dmodOk (p4) 3))
      (br ((dmodOk (p5) 25))
        (br ((rngOk ([((p3), ((p4), ((p5), ()))), ((iadd .i64 1 (dmod (p3) 5)), ((dmod (p4) 3), ((dmod (p5) 25), ())))]) (llen ([((p3), ((p4), ((p5), ()))), ((iadd .i64 1 (dmod (p3) 5)), ((dmod (p4) 3), ((dmod (p5) 25), ())))])) (0 : Int) && genB ((ledV (roll p0) 12))))
          (some (.t .bool awakeV, []))
          (none))
        (none))
      (none))
    (none)
def r_law41_LedgerAll_1 (p0 : (List Int)) (p1 : Ledger) (p2 : Decision) (p3 : Int) (p4 : Int) (p5 : Int) : Option (V × List VO) :=
  br ((decOk (ledN (roll p0) 12) (lgt tyDecision ((ledV (roll p0) 12).1) (Int.toNat (isub .i64 (llen ((ledV (roll p0) 12).1)) 1)))))
    (br ((ofOk (decN (ledN (roll p0) 12) (lgt tyDecision ((ledV (roll p0) 12).1) (Int.toNat (isub .i64 (llen ((ledV (roll p0) 12).1)) 1)))) ([40, 41])))
      (br ((rngOk ([(p2.1, (p2.2.1, (p2.2.2.1, (p2.2.2.2.1, (p2.2.2.2.2.1, ()))))), ((decV (ledN (roll p0) 12) (lgt tyDecision ((ledV (roll p0) 12).1) (Int.toNat (isub .i64 (llen ((ledV (roll p0) 12).1)) 1)))).1, (((decV (ledN (roll p0) 12) (lgt tyDecision ((ledV (roll p0) 12).1) (Int.toNat (isub .i64 (llen ((ledV (roll p0) 12).1)) 1)))).2).1, ((((decV (ledN (roll p0) 12) (lgt tyDecision ((ledV (roll p0) 12).1) (Int.toNat (isub .i64 (llen ((ledV (roll p0) 12).1)) 1)))).2).2).1, (((((decV (ledN (roll p0) 12) (lgt tyDecision ((ledV (roll p0) 12).1) (Int.toNat (isub .i64 (llen ((ledV (roll p0) 12).1)) 1)))).2).2).2).1, ((((((decV (ledN (roll p0) 12) (lgt tyDecision ((ledV (roll p0) 12).1) (Int.toNat (isub .i64 (llen ((ledV (roll p0) 12).1)) 1)))).2).2).2).2).1, ()))))), ((isub .i64 ((lgt tyDecision ((ledV (roll p0) 12).1) (Int.toNat (isub .i64 (llen ((ledV (roll p0) 12).1)) 1))).1) 1), (((lgt tyDecision ((ledV (roll p0) 12).1) (Int.toNat (isub .i64 (llen ((ledV (roll p0) 12).1)) 1))).2).1, (1, (0, (0, ()))))), ((lgt tyDecision ((ledV (roll p0) 12).1) (Int.toNat (isub .i64 (llen ((ledV (roll p0) 12).1)) 1))).1, ((isub .i64 (((lgt tyDecision ((ledV (roll p0) 12).1) (Int.toNat (isub .i64 (llen ((ledV (roll p0) 12).1)) 1))).2).1) 1), (1, (0, (0, ()))))), ((lgt tyDecision ((ledV (roll p0) 12).1) (Int.toNat (isub .i64 (llen ((ledV (roll p0) 12).1)) 1))).1, (((lgt tyDecision ((ledV (roll p0) 12).1) (Int.toNat (isub .i64 (llen ((ledV (roll p0) 12).1)) 1))).2).1, (1, ((dof (decN (ledN (roll p0) 12) (lgt tyDecision ((ledV (roll p0) 12).1) (Int.toNat (isub .i64 (llen ((ledV (roll p0) 12).1)) 1)))) ([40, 41])), (0, ())))))]) (llen ([(p2.1, (p2.2.1, (p2.2.2.1, (p2.2.2.2.1, (p2.2.2.2.2.1, ()))))), ((decV (ledN (roll p0) 12) (lgt tyDecision ((ledV (roll p0) 12).1) (Int.toNat (isub .i64 (llen ((ledV (roll p0) 12).1)) 1)))).1, (((decV (ledN (roll p0) 12) (lgt tyDecision ((ledV (roll p0) 12).1) (Int.toNat (isub .i64 (llen ((ledV (roll p0) 12).1)) 1)))).2).1, ((((decV (ledN (roll p0) 12) (lgt tyDecision ((ledV (roll p0) 12).1) (Int.toNat (isub .i64 (llen ((ledV (roll p0) 12).1)) 1)))).2).2).1, (((((decV (ledN (roll p0) 12) (lgt tyDecision ((ledV (roll p0) 12).1) (Int.toNat (isub .i64 (llen ((ledV (roll p0) 12).1)) 1)))).2).2).2).1, ((((((decV (ledN (roll p0) 12) (lgt tyDecision ((ledV (roll p0) 12).1) (Int.toNat (isub .i64 (llen ((ledV (roll p0) 12).1)) 1)))).2).2).2).2).1, ()))))), ((isub .i64 ((lgt tyDecision ((ledV (roll p0) 12).1) (Int.toNat (isub .i64 (llen ((ledV (roll p0) 12).1)) 1))).1) 1), (((lgt tyDecision ((ledV (roll p0) 12).1) (Int.toNat (isub .i64 (llen ((ledV (roll p0) 12).1)) 1))).2).1, (1, (0, (0, ()))))), ((lgt tyDecision ((ledV (roll p0) 12).1) (Int.toNat (isub .i64 (llen ((ledV (roll p0) 12).1)) 1))).1, ((isub .i64 (((lgt tyDecision ((ledV (roll p0) 12).1) (Int.toNat (isub .i64 (llen ((ledV (roll p0) 12).1)) 1))).2).1) 1), (1, (0, (0, ()))))), ((lgt tyDecision ((ledV (roll p0) 12).1) (Int.toNat (isub .i64 (llen ((ledV (roll p0) 12).1)) 1))).1, (((lgt tyDecision ((ledV (roll p0) 12).1) (Int.toNat (isub .i64 (llen ((ledV (roll p0) 12).1)) 1))).2).1, (1, ((dof (decN (ledN (roll p0) 12) (lgt tyDecision ((ledV (roll p0) 12).1) (Int.toNat (isub .i64 (llen ((ledV (roll p0) 12).1)) 1)))) ([40, 41])), (0, ())))))])) (0 : Int) && decide (p1.1.length ≤ 140) && genB (ledV (roll p0) 12)))
        (r_law41_LedgerAll_2 p0 p1 p2 p3 p4 p5)
        (none))
      (none))
    (none)
def r_law41_LedgerAll_3 (p0 : (List Int)) (p1 : Ledger) (p2 : Decision) (p3 : Int) (p4 : Int) (p5 : Int) : Option (V × List VO) :=
  br ((decOk (ledN (roll p0) 12) (0, (0, (0, (0, (0, ())))))))
    (br ((ofOk (decN (ledN (roll p0) 12) (0, (0, (0, (0, (0, ())))))) ([40, 41])))
      (br ((rngOk ([(p2.1, (p2.2.1, (p2.2.2.1, (p2.2.2.2.1, (p2.2.2.2.2.1, ()))))), ((decV (ledN (roll p0) 12) (0, (0, (0, (0, (0, ())))))).1, (((decV (ledN (roll p0) 12) (0, (0, (0, (0, (0, ())))))).2).1, ((((decV (ledN (roll p0) 12) (0, (0, (0, (0, (0, ())))))).2).2).1, (((((decV (ledN (roll p0) 12) (0, (0, (0, (0, (0, ())))))).2).2).2).1, ((((((decV (ledN (roll p0) 12) (0, (0, (0, (0, (0, ())))))).2).2).2).2).1, ()))))), ((isub .i64 0 1), (0, (1, (0, (0, ()))))), (0, ((isub .i64 0 1), (1, (0, (0, ()))))), (0, (0, (1, ((dof (decN (ledN (roll p0) 12) (0, (0, (0, (0, (0, ())))))) ([40, 41])), (0, ())))))]) (llen ([(p2.1, (p2.2.1, (p2.2.2.1, (p2.2.2.2.1, (p2.2.2.2.2.1, ()))))), ((decV (ledN (roll p0) 12) (0, (0, (0, (0, (0, ())))))).1, (((decV (ledN (roll p0) 12) (0, (0, (0, (0, (0, ())))))).2).1, ((((decV (ledN (roll p0) 12) (0, (0, (0, (0, (0, ())))))).2).2).1, (((((decV (ledN (roll p0) 12) (0, (0, (0, (0, (0, ())))))).2).2).2).1, ((((((decV (ledN (roll p0) 12) (0, (0, (0, (0, (0, ())))))).2).2).2).2).1, ()))))), ((isub .i64 0 1), (0, (1, (0, (0, ()))))), (0, ((isub .i64 0 1), (1, (0, (0, ()))))), (0, (0, (1, ((dof (decN (ledN (roll p0) 12) (0, (0, (0, (0, (0, ())))))) ([40, 41])), (0, ())))))])) (0 : Int) && decide (p1.1.length ≤ 140) && genB (ledV (roll p0) 12)))
        (r_law41_LedgerAll_2 p0 p1 p2 p3 p4 p5)
        (none))
      (none))
    (none)
def r_law41_LedgerAll (p0 : (List Int)) (p1 : Ledger) (p2 : Decision) (p3 : Int) (p4 : Int) (p5 : Int) : Option (V × List VO) :=
  br ((!(light p0)))
    (some (.t .bool awakeV, []))
    (br ((igt (llen p1.1) 140))
      (some (.t .bool awakeV, []))
      (br ((ledOk (roll p0) 12))
        (br ((igt (llen ((ledV (roll p0) 12).1)) 0))
          (br (cIx ((ledV (roll p0) 12).1) (isub .i64 (llen ((ledV (roll p0) 12).1)) 1))
            (frk
              (r_law41_LedgerAll_1 p0 p1 p2 p3 p4 p5)
              (r_law41_LedgerAll_1 p0 p1 p2 p3 p4 p5))
            (none))
          (frk
            (r_law41_LedgerAll_3 p0 p1 p2 p3 p4 p5)
            (r_law41_LedgerAll_3 p0 p1 p2 p3 p4 p5)))
        (none)))
theorem e_law41_LedgerAll (p0 : (List Int)) (p1 : Ledger) (p2 : Decision) (p3 : Int) (p4 : Int) (p5 : Int) : runF g_law41_LedgerAll tc_law41_LedgerAll rv_law41_LedgerAll false [.t (.sl tI) p0, .t tyLedger p1, .t tyDecision p2, .t tI p3, .t tI p4, .t tI p5] [] = r_law41_LedgerAll p0 p1 p2 p3 p4 p5 := by kernel_rfl
theorem ok_law41_LedgerAll : Option.map (trC Try.prog) Try.f10.body = some tc_law41_LedgerAll.er := by kernel_rfl
theorem rok_law41_LedgerAll : trVs Try.prog Try.f10.results.toList = some (rv_law41_LedgerAll.map Prod.fst) := by kernel_rfl
theorem en_law41_LedgerAll : Entered Try.prog 10 := ⟨_, Try.func10, by kernel_rfl, by kernel_rfl⟩
theorem gk_law41_LedgerAll : GOk Try.prog g_law41_LedgerAll := gok_of _ (by
  intro p hp
  simp only [List.mem_cons, List.not_mem_nil, or_false] at hp
  rcases hp with rfl | rfl | rfl | rfl | rfl | rfl | rfl | rfl | rfl | rfl | rfl | rfl | rfl | rfl | rfl | rfl | rfl | rfl | rfl | rfl | rfl | rfl | rfl | rfl
  · exact ⟨en_make_Light, ms_make_Light⟩
  · exact ⟨en_move_Ledger, ms_move_Ledger⟩
  · exact ⟨en_make_Roll, ms_make_Roll⟩
  · exact ⟨en_make_Mod, ms_make_Mod⟩
  · exact ⟨en_law41_awake, ms_law41_awake⟩
  · exact ⟨en_ledger_Add, ms_ledger_Add⟩
  · exact ⟨en_ledger_Latest, ms_ledger_Latest⟩
  · exact ⟨en_ledger_Known, ms_ledger_Known⟩
  · exact ⟨en_move_Decision, ms_move_Decision⟩
  · exact ⟨en_ledger_Same, ms_ledger_Same⟩
  · exact ⟨en_ref41_Same, ms_ref41_Same⟩
  · exact ⟨en_ledger_Check, ms_ledger_Check⟩
  · exact ⟨en_ledger_Changed, ms_ledger_Changed⟩
  · exact ⟨en_ledger_Then, ms_ledger_Then⟩
  · exact ⟨en_ledger_Differ, ms_ledger_Differ⟩
  · exact ⟨en_make_Dice_Of, ms_make_Dice_Of⟩
  · exact ⟨en_ref41_Add, ms_ref41_Add⟩
  · exact ⟨en_ref41_Check, ms_ref41_Check⟩
  · exact ⟨en_ref41_Differ, ms_ref41_Differ⟩
  · exact ⟨en_ref41_Latest, ms_ref41_Latest⟩
  · exact ⟨en_ref41_Known, ms_ref41_Known⟩
  · exact ⟨en_ref41_Then, ms_ref41_Then⟩
  · exact ⟨en_ref26_SameInts, ms_ref26_SameInts⟩
  · exact ⟨en_ref41_Changed, ms_ref41_Changed⟩)
theorem add_len (z : Ledger) (y : Decision) : (addV z y).1.1.length ≤ z.1.length + 1 := by
  obtain ⟨l, u⟩ := z
  simp only [addV, addL]
  split <;> simp
theorem ine_self (a : Int) : ine a a = false := by simp [ine]
theorem bneq_self (a : Bool) : bneq a a = false := by simp [bneq]
theorem sameV_self (a : Ledger) : sameV a a = true := by simp [sameV]
theorem sameOk_of {a b : Ledger} (h1 : a.1.length ≤ 100000) (h2 : b.1.length ≤ 100000) : sameOk a b = true := by
  simp only [sameOk, decide_eq_true_eq]
  exact ⟨h1, h2⟩
theorem lenOk_of {a : Ledger} (h1 : a.1.length ≤ 100000) : lenOk a = true := by
  simp only [lenOk, decide_eq_true_eq]
  exact h1
theorem l_law41_LedgerAll_0 (x3 : Int) (x4 : Int) (x5 : Int) (x85 : (List Decision)) (x86 : Int) (x87 : Int) (x93 : (List Ledger)) (x94 : Int) (x95 : Int) (y7 : Ledger) (y14 : Ledger) (y18 : Decision) (h : (rngOk x93 x94 x95 && smallL x93 && genB y14) = true) : lp_law41_LedgerAll_0 x3 x4 x5 x85 x86 x87 x93 x94 x95 y7 y14 y18 = la_law41_LedgerAll_0 x3 x4 x5 x85 x86 x87 x93 x94 x95 y7 y14 y18 := by
  simp only [Bool.and_eq_true, genB, decide_eq_true_eq] at h
  obtain ⟨⟨h0, h4⟩, h5, h6⟩ := h
  obtain ⟨rfl, h3, k, rfl, hk⟩ := rng_k h0
  clear h0
  refine range_ind x93 (fun k => lp_law41_LedgerAll_0 x3 x4 x5 x85 x86 x87 x93 (x93.length : Int) (k : Int) y7 y14 y18 = la_law41_LedgerAll_0 x3 x4 x5 x85 x86 x87 x93 (x93.length : Int) (k : Int) y7 y14 y18) ?_ ?_ k hk
  · rw [ln_law41_LedgerAll_0]
    simp [n_law41_LedgerAll_0, la_law41_LedgerAll_0, ilt_nat, br_false]
  · intro k hk ih
    rw [ln_law41_LedgerAll_0]
    have hz : x93[k].1.length ≤ 140 := by
      have := List.all_eq_true.1 h4 x93[k] (List.getElem_mem hk)
      simpa using this
    have ha := add_len x93[k] y18
    have e1 : addOk x93[k] y18 = true := lenOk_of (by omega)
    have e2 : lenOk x93[k] = true := lenOk_of (by omega)
    have e3 := sameOk_of (a := (addV x93[k] y18).1) (b := (addV x93[k] y18).1) (by omega) (by omega)
    have e4 := sameOk_of (a := (addV x93[k] y18).1) (b := y14) (by omega) (by omega)
    simp only [n_law41_LedgerAll_0, ilt_nat, cIx_nat, hk, decide_true, br_true, Int.toNat_natCast, lgt_get (y := tyLedger) hk, add1 (show k < 4611686018427387904 by omega), ih, la_law41_LedgerAll_0, e1, e2, e3, e4, ine_self, bneq_self, sameV_self, Bool.not_true, br_false]
theorem l_law41_LedgerAll_1 (x3 : Int) (x4 : Int) (x5 : Int) (x85 : (List Decision)) (x86 : Int) (x87 : Int) (y7 : Ledger) (y14 : Ledger) (h : (rngOk x85 x86 x87 && decide (y7.1.length ≤ 140) && genB y14) = true) : lp_law41_LedgerAll_1 x3 x4 x5 x85 x86 x87 y7 y14 = la_law41_LedgerAll_1 x3 x4 x5 x85 x86 x87 y7 y14 := by
  simp only [Bool.and_eq_true, decide_eq_true_eq] at h
  obtain ⟨⟨h0, h4⟩, h5⟩ := h
  obtain ⟨rfl, h3, k, rfl, hk⟩ := rng_k h0
  clear h0
  refine range_ind x85 (fun k => lp_law41_LedgerAll_1 x3 x4 x5 x85 (x85.length : Int) (k : Int) y7 y14 = la_law41_LedgerAll_1 x3 x4 x5 x85 (x85.length : Int) (k : Int) y7 y14) ?_ ?_ k hk
  · rw [ln_law41_LedgerAll_1]
    simp [n_law41_LedgerAll_1, la_law41_LedgerAll_1, ilt_nat, br_false]
  · intro k hk ih
    rw [ln_law41_LedgerAll_1]
    have h6 : y14.1.length ≤ 100 := by
      simp only [genB, Bool.and_eq_true, decide_eq_true_eq] at h5
      exact h5.2
    have e1 : rngOk [y14, y7] (llen [y14, y7]) 0 = true := rfl
    have e2 : smallL [y14, y7] = true := by
      simp only [smallL, List.all_cons, List.all_nil, Bool.and_true, Bool.and_eq_true, decide_eq_true_eq]
      omega
    first
    | simp only [n_law41_LedgerAll_1, ilt_nat, cIx_nat, hk, decide_true, br_true, Int.toNat_natCast, add1 (show k < 4611686018427387904 by omega), ih, la_law41_LedgerAll_1, h5, e1, e2, Bool.and_true]
    | (simp only [n_law41_LedgerAll_1, ilt_nat, cIx_nat, hk, decide_true, br_true, Int.toNat_natCast, add1 (show k < 4611686018427387904 by omega), ih, la_law41_LedgerAll_1]
       rw [show rngOk _ _ _ = true from e1, show smallL _ = true from e2, h5]
       rfl)
theorem days_filter {l : List Decision} (h : Days (decs l)) (n : Int) : ((decs l).take (cnt (decs l) n)).map und = l.filter fun d => ile d.1 n := by
  rw [take_cnt]
  induction l with
  | nil => rfl
  | cons b l ih =>
    have hd : ∀ x ∈ decs l, b.1 ≤ x.day := by
      intro x hx
      obtain ⟨i, hi⟩ := List.mem_iff_getElem?.1 hx
      exact h 0 (i + 1) (dec b) x (by omega) rfl (by simpa using hi)
    have ht : Days (decs l) := fun i j x y hij hx hy => h (i + 1) (j + 1) x y (by omega) (by simpa using hx) (by simpa using hy)
    have ih := ih ht
    by_cases hb : b.1 ≤ n
    · have e1 : ile b.1 n = true := by simpa [ile] using hb
      show ((dec b :: decs l).takeWhile _).map und = _
      rw [List.takeWhile_cons_of_pos (by exact decide_eq_true hb), List.map_cons, List.filter_cons_of_pos (by simpa using e1), ih]
      rfl
    · show ((dec b :: decs l).takeWhile _).map und = _
      rw [List.takeWhile_cons_of_neg (by intro e; exact hb (of_decide_eq_true e)), List.map_nil]
      have : ∀ x ∈ b :: l, ¬ (ile x.1 n = true) := by
        intro x hx
        rcases List.mem_cons.1 hx with rfl | hx
        · simpa [ile] using hb
        · have := hd (dec x) (List.mem_map.2 ⟨x, hx, rfl⟩)
          simp only [dec] at this
          simp [ile]
          omega
      exact (List.filter_eq_nil_iff.2 this).symm
theorem imx_max (a b : Int) : imx a b = max a b := by
  unfold imx
  split <;> omega
theorem known_eq {l : List Decision} (h : Days (decs l)) (n : Int) : knownV (l, ()) n = refKnown (l, ()) n := by
  have e1 : ∀ (ds : List Dec) (o : Int), ds.foldl (fun n d => max n d.known) o = (ds.map und).foldl (fun o d => imx o d.2.1) o := by
    intro ds
    induction ds with
    | nil => intro o; rfl
    | cons d ds ih => intro o; simp only [List.foldl_cons, List.map_cons, ih, imx_max]; rfl
  show maxK _ = l.foldl (knS n) 0
  unfold maxK
  rw [e1, days_filter h, List.foldl_filter]
  rfl
theorem then_eq {l : List Decision} (h : Days (decs l)) (n : Int) : thenV (l, ()) n = refThen (l, ()) n := by
  simp only [thenV, refThen, days_filter h]
theorem then_len (l : Ledger) (n : Int) : (refThen l n).1.length ≤ l.1.length := List.length_filter_le _ _
theorem chg_len (k s : Int) : ∀ (l : List Decision) (i last : Int), (chg k s i last l).length ≤ l.length
  | [], _, _ => by simp [chg]
  | d :: l, i, last => by
    have h1 := chg_len k s l (i + 1) last
    have h2 := chg_len k s l (i + 1) d.2.2.2.2.1
    simp only [chg, List.length_cons]
    split
    · omega
    · split
      · simp only [List.length_cons]; omega
      · omega
theorem l_law41_LedgerAll_2 (x170 : (List (Int × (Int × (Int × Unit))))) (x171 : Int) (x172 : Int) (y14 : Ledger) (h : (rngOk x170 x171 x172 && genB y14) = true) : lp_law41_LedgerAll_2 x170 x171 x172 y14 = la_law41_LedgerAll_2 x170 x171 x172 y14 := by
  simp only [Bool.and_eq_true, genB, decide_eq_true_eq] at h
  obtain ⟨h0, h5, h6⟩ := h
  obtain ⟨rfl, h3, k, rfl, hk⟩ := rng_k h0
  clear h0
  obtain ⟨l, u⟩ := y14
  have h6 : l.length ≤ 100 := h6
  have h5 : Gen zeroDec (decs l) := h5
  refine range_ind x170 (fun k => lp_law41_LedgerAll_2 x170 (x170.length : Int) (k : Int) (l, u) = la_law41_LedgerAll_2 x170 (x170.length : Int) (k : Int) (l, u)) ?_ ?_ k hk
  · rw [ln_law41_LedgerAll_2]
    simp [n_law41_LedgerAll_2, la_law41_LedgerAll_2, ilt_nat, br_false]
  · intro k hk ih
    rw [ln_law41_LedgerAll_2]
    have q0 : lenOk (l, u) = true := lenOk_of (by show l.length ≤ _; omega)
    have q1 : daysOk (l, u) = true := by
      simp only [daysOk, q0, Bool.and_true, decide_eq_true_eq]
      exact h5.days
    have q2 : changedOk (l, u) x170[k].1 x170[k].2.1 = true := by
      simp only [changedOk, q0, Bool.true_and, List.all_eq_true, decide_eq_true_eq]
      intro d hd
      exact (h5.mem_bd (dec d) (List.mem_map.2 ⟨d, hd, rfl⟩)).2.2.2.2.2.2.2.2.1
    have q3 : ∀ n, sameOk (refThen (l, u) n) (refThen (l, u) n) = true := fun n => sameOk_of (by have := then_len (l, u) n; have : (refThen (l, u) n).1.length ≤ l.length := this; omega) (by have := then_len (l, u) n; have : (refThen (l, u) n).1.length ≤ l.length := this; omega)
    have q4 : ∀ a b, sameIsOk (changedV (l, u) a b) (changedV (l, u) a b) = true := by
      intro a b
      have : (changedV (l, u) a b).length ≤ l.length := chg_len a b l 0 (-1)
      simp only [sameIsOk, decide_eq_true_eq]
      omega
    have q5 : ∀ a b, sameIs (changedV (l, u) a b) (changedV (l, u) a b) = true := fun a b => by simp [sameIs]
    have q6 : ∀ a b c, latestV (l, u) a b c = refLatest (l, u) a b c := fun a b c => latest_want h5 a b c
    have q7 : ∀ n, knownV (l, u) n = refKnown (l, u) n := fun n => known_eq h5.days n
    have q8 : ∀ n, thenV (l, u) n = refThen (l, u) n := fun n => then_eq h5.days n
    have g := lgt_get (y := .pr tI (.pr tI (.pr tI .nil))) hk
    simp only [n_law41_LedgerAll_2, ilt_nat, cIx_nat, hk, decide_true, br_true, Int.toNat_natCast, g, add1 (show k < 4611686018427387904 by omega), ih, la_law41_LedgerAll_2, latestOk, lenOk4, lenOk2, dayOk, q0, q1, q2, q3, q4, q5, q6, q7, q8, eq_five, ine_self, bneq_self, sameV_self, BEq.rfl, Bool.and_self, Bool.not_true, br_false]
theorem lo_law41_LedgerAll_0 : ∀ S l p, g_law41_LedgerAll.L 0 (fgt fg_law41_LedgerAll_0 S) = some (true, l) → pickA l = some p → loopF (roundF g_law41_LedgerAll fg_law41_LedgerAll_0 tb_law41_LedgerAll_0) S = some p :=
  lok_of (s := sh_law41_LedgerAll_0) ⟨by decide, by decide⟩ (by kernel_rfl) fun x y hok p hp => by
  simp only [pickA_br, pickA_one] at hp
  exact (l_law41_LedgerAll_0 x.1 x.2.1 x.2.2.1 x.2.2.2.2.2.2.1 x.2.2.2.2.2.2.2.1 x.2.2.2.2.2.2.2.2.1 x.2.2.2.2.2.2.2.2.2.1 x.2.2.2.2.2.2.2.2.2.2.1 x.2.2.2.2.2.2.2.2.2.2.2.1 y.1 y.2.1 y.2.2.1 (by simpa using hok)).trans hp
theorem lo_law41_LedgerAll_1 : ∀ S l p, g_law41_LedgerAll.L 1 (fgt fg_law41_LedgerAll_1 S) = some (true, l) → pickA l = some p → loopF (roundF g_law41_LedgerAll fg_law41_LedgerAll_1 tb_law41_LedgerAll_1) S = some p :=
  lok_of (s := sh_law41_LedgerAll_1) ⟨by decide, by decide⟩ (by kernel_rfl) fun x y hok p hp => by
  simp only [pickA_br, pickA_one] at hp
  exact (l_law41_LedgerAll_1 x.1 x.2.1 x.2.2.1 x.2.2.2.2.2.1 x.2.2.2.2.2.2.1 x.2.2.2.2.2.2.2.1 y.1 y.2.1 (by simpa using hok)).trans hp
theorem lo_law41_LedgerAll_2 : ∀ S l p, g_law41_LedgerAll.L 2 (fgt fg_law41_LedgerAll_2 S) = some (true, l) → pickA l = some p → loopF (roundF g_law41_LedgerAll fg_law41_LedgerAll_2 tb_law41_LedgerAll_2) S = some p :=
  lok_of (s := sh_law41_LedgerAll_2) ⟨by decide, by decide⟩ (by kernel_rfl) fun x y hok p hp => by
  simp only [pickA_br, pickA_one] at hp
  exact (l_law41_LedgerAll_2 x.2.1 x.2.2.1 x.2.2.2.1 y.1 (by simpa using hok)).trans hp
theorem lk_law41_LedgerAll : tc_law41_LedgerAll.lok g_law41_LedgerAll := by
  repeat (first | exact trivial | exact lo_law41_LedgerAll_0 | exact lo_law41_LedgerAll_1 | exact lo_law41_LedgerAll_2 | refine ⟨?_, ?_⟩)
theorem s_law41_LedgerAll (p0 : List Int) (p1 : Ledger) (p2 : Decision) (p3 p4 p5 : Int) : r_law41_LedgerAll p0 p1 p2 p3 p4 p5 = some (.t .bool true, []) := by
  unfold r_law41_LedgerAll
  cases h0 : light p0 with
  | false => rfl
  | true =>
    simp only [Bool.not_true, br_false]
    cases h1 : igt (llen p1.1) 140 with
    | true => rfl
    | false =>
      have hp1 : p1.1.length ≤ 140 := by simp only [igt, llen, decide_eq_false_iff_not] at h1; omega
      obtain ⟨g1, g2, g3⟩ := led_facts (n := 12) (dOk_roll h0) (by decide)
      have len12 : (ledV (roll p0) 12).1.length ≤ 12 := g2
      have l1 : ledOk (roll p0) 12 = true := by simp only [ledOk, dOk_roll h0, Bool.true_and]; rfl
      have d5 : dmodOk p3 5 = true := rfl
      have d3 : dmodOk p4 3 = true := rfl
      have d25 : dmodOk p5 25 = true := rfl
      have gb : genB (ledV (roll p0) 12) = true := by
        simp only [genB, Bool.and_eq_true, decide_eq_true_eq]
        exact ⟨g1, by omega⟩
      have r5 : ∀ a b c d e : Decision, rngOk [a, b, c, d, e] (llen [a, b, c, d, e]) 0 = true := fun _ _ _ _ _ => rfl
      have r2 : ∀ a b : Int × Int × Int × Unit, rngOk [a, b] (llen [a, b]) 0 = true := fun _ _ => rfl
      have o1 : ∀ d, dOk d = true → ofOk d [40, 41] = true := fun d hd => by simp [ofOk, hd]
      have p140 : decide (p1.1.length ≤ 140) = true := decide_eq_true hp1
      simp only [l1, br_true, br_false]
      have fin : ∀ z : Decision, 0 ≤ z.1 ∧ z.1 ≤ 1000000 ∧ 0 ≤ z.2.1 ∧ z.2.1 ≤ 1000000 → decOk (ledN (roll p0) 12) z = true ∧ ofOk (decN (ledN (roll p0) 12) z) [40, 41] = true := fun z hz =>
        ⟨by simp only [decOk, g3, Bool.true_and, decide_eq_true_eq]; exact hz, o1 _ (dOk_dec g3)⟩
      cases hq : igt (llen (ledV (roll p0) 12).1) 0 with
      | true =>
        have hp : 0 < (ledV (roll p0) 12).1.length := by simpa [igt, llen] using hq
        obtain ⟨m, hm⟩ : ∃ m : Nat, (ledV (roll p0) 12).1.length = m + 1 := ⟨_, (Nat.succ_pred_eq_of_pos hp).symm⟩
        have e4 : isub .i64 (llen (ledV (roll p0) 12).1) 1 = (m : Int) := by rw [isub_in (by simp only [llen]; omega)]; simp only [llen]; omega
        have hlt : m < (ledV (roll p0) 12).1.length := by omega
        have hb := g1.mem_bd (dec (ledV (roll p0) 12).1[m]) (List.mem_map.2 ⟨_, List.getElem_mem hlt, rfl⟩)
        have hlen : (decs (ledV (roll p0) 12).1).length = (ledV (roll p0) 12).1.length := List.length_map _
        rw [hlen] at hb
        simp only [dec, zeroDec] at hb
        have f := fin (lgt tyDecision (ledV (roll p0) 12).1 (Int.toNat (m : Int))) (by rw [Int.toNat_natCast, lgt_get (y := tyDecision) hlt]; omega)
        have c1 : cIx (ledV (roll p0) 12).1 (m : Int) = true := by rw [cIx_nat]; simpa using hlt
        simp only [r_law41_LedgerAll, r_law41_LedgerAll_1, r_law41_LedgerAll_2, r_law41_LedgerAll_3, frk_self, e4, c1, br_true, f.1, f.2, d5, d3, d25, gb, r5, r2, p140, Bool.and_self, frk_self]
        rfl
      | false =>
        have f := fin (0, (0, (0, (0, (0, ()))))) (by decide)
        simp only [r_law41_LedgerAll, r_law41_LedgerAll_1, r_law41_LedgerAll_2, r_law41_LedgerAll_3, frk_self, br_true, br_false, f.1, f.2, d5, d3, d25, gb, r5, r2, p140, Bool.and_self, frk_self]
        rfl
def lawAll (_ : List Int) (_ : Ledger) (_ : Decision) (_ _ _ : Int) : Bool := true
def sp_law41_LedgerAll : Ent := spec (.pr (.sl tI) (.pr tyLedger (.pr tyDecision (.pr tI (.pr tI (.pr tI .nil)))))) (fun x => true) (fun x => (.t .bool (lawAll x.1 x.2.1 x.2.2.1 x.2.2.2.1 x.2.2.2.2.1 x.2.2.2.2.2.1)))
theorem ms_law41_LedgerAll : Meets Try.prog 10 (strip sp_law41_LedgerAll) := by
  obtain ⟨c, hc, hi⟩ := Option.map_eq_some_iff.1 ok_law41_LedgerAll
  exact meets_spec (R := runF g_law41_LedgerAll tc_law41_LedgerAll rv_law41_LedgerAll false) (meets_of Try.func10 hc hi Try.ntmps10 rok_law41_LedgerAll gk_law41_LedgerAll lk_law41_LedgerAll mixed) fun x _ => (e_law41_LedgerAll x.1 x.2.1 x.2.2.1 x.2.2.2.1 x.2.2.2.2.1 x.2.2.2.2.2.1).trans (s_law41_LedgerAll x.1 x.2.1 x.2.2.1 x.2.2.2.1 x.2.2.2.2.1 x.2.2.2.2.2.1)
theorem walkLedgerAll (z0 : (List Int)) (z1 : Ledger) (z2 : Decision) (z3 : Int) (z4 : Int) (z5 : Int) (W : World) (v0 : Value) (v1 : Value) (v2 : Value) (v3 : Value) (v4 : Value) (v5 : Value) (c0 : C noX W (fun _ => .no) (V.t (.sl tI) z0).d v0) (c1 : C noX W (fun _ => .no) (V.t tyLedger z1).d v1) (c2 : C noX W (fun _ => .no) (V.t tyDecision z2).d v2) (c3 : C noX W (fun _ => .no) (V.t tI z3).d v3) (c4 : C noX W (fun _ => .no) (V.t tI z4).d v4) (c5 : C noX W (fun _ => .no) (V.t tI z5).d v5) (w0 : Ty.wf (.sl tI) z0) (w1 : Ty.wf tyLedger z1) (w2 : Ty.wf tyDecision z2) (w3 : Ty.wf tI z3) (w4 : Ty.wf tI z4) (w5 : Ty.wf tI z5) :
    Calls Try.prog 10 #[v0, v1, v2, v3, v4, v5] W fun r w' => r = .returned (.bool true) ∧ Below W.heap.size W w' :=
  calls_true ms_law41_LedgerAll (args := [.t (.sl tI) z0, .t tyLedger z1, .t tyDecision z2, .t tI z3, .t tI z4, .t tI z5]) (strip_spec (x := (z0, z1, z2, z3, z4, z5, ())) rfl (rfl)) (by simp only [V.ds, Cs]; exact ⟨_, _, rfl, c0, _, _, rfl, c1, _, _, rfl, c2, _, _, rfl, c3, _, _, rfl, c4, _, _, rfl, c5, rfl⟩)
end
end Go.Proofs.Ytnimpcffagidoaa.K
