/-
  The law that a use is allowed on the days of its spans alone.
-/
import Derived.Test.YtfldcnhkppgmbaaV14
import Derived.Test.YtfldcnhkppgmbaaKD
set_option linter.unusedSimpArgs false
set_option linter.unusedVariables false
namespace Go.Proofs.Ytfldcnhkppgmbaa.K
open Go.RowKit
noncomputable section
def inB (d : Int) (k : Keep) : Bool := ige d k.1 && ilt d k.2.1
theorem any_in {l : List Keep} {d : Int} : l.any (inB d) = true ↔ inL l d := by
  rw [List.any_eq_true]
  unfold inL inK inB
  simp only [ige, ilt, Bool.and_eq_true, decide_eq_true_eq]
theorem in_eq {y : Policy} {u : Keep} {p d : Int} (h : polOk y = true) (h0 : 0 ≤ d) (h1 : d ≤ 40000) : (spansF y u p).any (inB d) = allF y u p d := by
  rw [Bool.eq_iff_iff, any_in, spans_in h h0 h1]
theorem fall_after {y : Policy} {u : Keep} {p d f : Int} (h : polOk y = true) (hf : fallL (spansF y u p) = (f, true)) (h0 : 0 ≤ d) (h1 : d ≤ 40000) (hd : f ≤ d) : allF y u p d = false := by
  rw [← in_eq h h0 h1]
  cases hq : (spansF y u p).any (inB d) with
  | false => rfl
  | true =>
    obtain ⟨k, hk, k1, k2⟩ := any_in.1 hq
    rcases fall_cases (u := u) (p := p) h with ⟨e, _⟩ | ⟨l, s, e, g1, g2, g3, g4, ef⟩
    · rw [e] at hk; cases hk
    · rw [ef] at hf
      rw [e] at hk
      split at hf
      · injection hf with hf _
        rcases List.mem_append.1 hk with hk | hk
        · have := g4 k hk
          omega
        · rw [List.mem_singleton.1 hk] at k2
          omega
      · injection hf with _ hf
        cases hf
theorem fall_before {y : Policy} {u : Keep} {p f : Int} (h : polOk y = true) (hf : fallL (spansF y u p) = (f, true)) (h0 : 0 < f) : f ≤ 40000 ∧ allF y u p (f - 1) = true := by
  rcases fall_cases (u := u) (p := p) h with ⟨e, ef⟩ | ⟨l, s, e, g1, g2, g3, g4, ef⟩
  · rw [ef] at hf
    injection hf with hf _
    omega
  · rw [ef] at hf
    split at hf
    · rename_i h40
      injection hf with hf _
      refine ⟨by omega, ?_⟩
      rw [← in_eq h (by omega) (by omega), any_in, e]
      exact ⟨s, by simp, by unfold inK; omega⟩
    · injection hf with _ hf
      cases hf
def d16Ok (_ : List Int) (d : Int) : Bool := decide (0 ≤ d ∧ d ≤ 65535)
def lawDays (_ : List Int) (_ : Int) : Bool := true
def dr_law18_VerdictDays_0 : List DO := [(.mk (.mk (some 65) none (.m (.pu (.mv (.t 9))))) []), (.mk (.mk (some 66) none (.m (.pu (.mv (.t 14))))) []), (.mk (.mk (some 67) none (.m (.pu (.ix 2 (.t 65) (.t 66))))) [0, 1]), (.mk (.mk (some 68) none (.m (.pu (.fa 0 (.t 67))))) [2]), (.mk (.mk (some 69) none (.m (.ld false 1 (.t 68)))) [3]), (.mk (.mk (some 70) none (.m (.pu (.bin false .lss (.t 69) (.c (.v (.int .i64 0))))))) [4]), (.mk (.mk (some 71) none (.m (.pu (.mv (.t 70))))) [5]), (.mk (.mk (some 72) (some (71, false)) (.m (.pu (.mv (.t 9))))) [6]), (.mk (.mk (some 73) (some (71, false)) (.m (.pu (.mv (.t 14))))) [6]), (.mk (.mk (some 74) (some (71, false)) (.m (.pu (.ix 2 (.t 72) (.t 73))))) [7, 8, 6]), (.mk (.mk (some 75) (some (71, false)) (.m (.pu (.fa 0 (.t 74))))) [9, 6]), (.mk (.mk (some 76) (some (71, false)) (.m (.ld false 1 (.t 75)))) [10, 6]), (.mk (.mk (some 77) (some (71, false)) (.m (.pu (.mv (.t 9))))) [6]), (.mk (.mk (some 78) (some (71, false)) (.m (.pu (.mv (.t 14))))) [6]), (.mk (.mk (some 79) (some (71, false)) (.m (.pu (.ix 2 (.t 77) (.t 78))))) [12, 13, 6]), (.mk (.mk (some 80) (some (71, false)) (.m (.pu (.fa 1 (.t 79))))) [14, 6]), (.mk (.mk (some 81) (some (71, false)) (.m (.ld false 1 (.t 80)))) [15, 6]), (.mk (.mk (some 82) (some (71, false)) (.m (.pu (.bin false .geq (.t 76) (.t 81))))) [11, 16, 6]), (.mk (.mk (some 83) none (.m (.pu (.pick (.t 71) (.c (.v (.bool true))) (.t 82))))) [6, 17]), (.mk (.mk (some 84) none (.m (.pu (.mv (.t 83))))) [18, 6]), (.mk (.mk (some 85) (some (84, false)) (.m (.pu (.mv (.t 9))))) [19]), (.mk (.mk (some 86) (some (84, false)) (.m (.pu (.mv (.t 14))))) [19]), (.mk (.mk (some 87) (some (84, false)) (.m (.pu (.ix 2 (.t 85) (.t 86))))) [20, 21, 19]), (.mk (.mk (some 88) (some (84, false)) (.m (.pu (.fa 1 (.t 87))))) [22, 19]), (.mk (.mk (some 89) (some (84, false)) (.m (.ld false 1 (.t 88)))) [23, 19]), (.mk (.mk (some 90) (some (84, false)) (.m (.pu (.bin false .gtr (.t 89) (.c (.v (.int .i64 40001))))))) [24, 19]), (.mk (.mk (some 91) none (.m (.pu (.pick (.t 84) (.c (.v (.bool true))) (.t 90))))) [19, 25]), (.mk (.mk (some 92) none (.m (.pu (.mv (.t 91))))) [26, 19]), (.mk (.mk (some 93) (some (92, false)) (.m (.pu (.mv (.t 14))))) [27]), (.mk (.mk (some 94) (some (92, false)) (.m (.pu (.bin false .gtr (.t 93) (.c (.v (.int .i64 0))))))) [28, 27]), (.mk (.mk (some 95) (some (92, false)) (.m (.pu (.mv (.t 94))))) [29, 27, 27]), (.mk (.mk (some 96) (some (95, true)) (.m (.pu (.mv (.t 9))))) [30]), (.mk (.mk (some 97) (some (95, true)) (.m (.pu (.mv (.t 14))))) [30]), (.mk (.mk (some 98) (some (95, true)) (.m (.pu (.bin false .sub (.t 97) (.c (.v (.int .i64 1))))))) [32, 30]), (.mk (.mk (some 99) (some (95, true)) (.m (.pu (.ix 2 (.t 96) (.t 98))))) [31, 33, 30]), (.mk (.mk (some 100) (some (95, true)) (.m (.pu (.fa 1 (.t 99))))) [34, 30]), (.mk (.mk (some 101) (some (95, true)) (.m (.ld false 1 (.t 100)))) [35, 30]), (.mk (.mk (some 102) (some (95, true)) (.m (.pu (.mv (.t 9))))) [30]), (.mk (.mk (some 103) (some (95, true)) (.m (.pu (.mv (.t 14))))) [30]), (.mk (.mk (some 104) (some (95, true)) (.m (.pu (.ix 2 (.t 102) (.t 103))))) [37, 38, 30]), (.mk (.mk (some 105) (some (95, true)) (.m (.pu (.fa 0 (.t 104))))) [39, 30]), (.mk (.mk (some 106) (some (95, true)) (.m (.ld false 1 (.t 105)))) [40, 30]), (.mk (.mk (some 107) (some (95, true)) (.m (.pu (.bin false .geq (.t 101) (.t 106))))) [36, 41, 30]), (.mk (.mk (some 108) (some (92, false)) (.m (.pu (.pick (.t 95) (.t 107) (.c (.v (.bool false))))))) [30, 42, 27]), (.mk (.mk (some 109) none (.m (.pu (.pick (.t 92) (.c (.v (.bool true))) (.t 108))))) [27, 43])]
def dr_law18_VerdictDays_1 : List DO := [(.mk (.mk (some 126) none (.m (.pu (.mv (.t 17))))) []), (.mk (.mk (some 127) none (.m (.pu (.mv (.t 126))))) [0]), (.mk (.mk (some 128) (some (127, false)) (.m (.pu (.mv (.t 15))))) [1]), (.mk (.mk (some 129) (some (127, false)) (.m (.pu (.mv (.t 16))))) [1]), (.mk (.mk (some 130) (some (127, false)) (.m (.pu (.ix 1 (.t 128) (.t 129))))) [2, 3, 1]), (.mk (.mk (some 131) (some (127, false)) (.m (.ld false 1 (.t 130)))) [4, 1]), (.mk (.mk (some 132) (some (127, false)) (.m (.pu (.mv (.t 9))))) [1]), (.mk (.mk (some 133) (some (127, false)) (.m (.pu (.mv (.t 18))))) [1]), (.mk (.mk (some 134) (some (127, false)) (.m (.pu (.ix 2 (.t 132) (.t 133))))) [6, 7, 1]), (.mk (.mk (some 135) (some (127, false)) (.m (.pu (.fa 0 (.t 134))))) [8, 1]), (.mk (.mk (some 136) (some (127, false)) (.m (.ld false 1 (.t 135)))) [9, 1]), (.mk (.mk (some 137) (some (127, false)) (.m (.pu (.bin false .geq (.t 131) (.t 136))))) [5, 10, 1]), (.mk (.mk (some 138) (some (127, false)) (.m (.pu (.mv (.t 137))))) [11, 1, 1]), (.mk (.mk (some 139) (some (138, true)) (.m (.pu (.mv (.t 15))))) [12]), (.mk (.mk (some 140) (some (138, true)) (.m (.pu (.mv (.t 16))))) [12]), (.mk (.mk (some 141) (some (138, true)) (.m (.pu (.ix 1 (.t 139) (.t 140))))) [13, 14, 12]), (.mk (.mk (some 142) (some (138, true)) (.m (.ld false 1 (.t 141)))) [15, 12]), (.mk (.mk (some 143) (some (138, true)) (.m (.pu (.mv (.t 9))))) [12]), (.mk (.mk (some 144) (some (138, true)) (.m (.pu (.mv (.t 18))))) [12]), (.mk (.mk (some 145) (some (138, true)) (.m (.pu (.ix 2 (.t 143) (.t 144))))) [17, 18, 12]), (.mk (.mk (some 146) (some (138, true)) (.m (.pu (.fa 1 (.t 145))))) [19, 12]), (.mk (.mk (some 147) (some (138, true)) (.m (.ld false 1 (.t 146)))) [20, 12]), (.mk (.mk (some 148) (some (138, true)) (.m (.pu (.bin false .lss (.t 142) (.t 147))))) [16, 21, 12]), (.mk (.mk (some 149) (some (127, false)) (.m (.pu (.pick (.t 138) (.t 148) (.c (.v (.bool false))))))) [12, 22, 1]), (.mk (.mk (some 150) none (.m (.pu (.pick (.t 127) (.c (.v (.bool true))) (.t 149))))) [1, 23]), (.mk (.mk (some 17) none (.m (.pu (.mv (.t 150))))) [24, 12, 0, 1, 2, 3, 4, 5, 6, 7, 8, 9, 10, 11, 12, 13, 14, 15, 16, 17, 18, 19, 20, 21, 22, 23, 24])]
def dr_law18_VerdictDays_2 : List DO := [(.mk (.mk (some 152) none (.m (.ld true 2 (.t 6)))) []), (.mk (.mk (some 153) none (.m (.ld true 2 (.t 7)))) []), (.mk (.mk (some 154) none (.m (.pu (.mv (.t 8))))) []), (.mk (.mk (some 155) none (.m (.pu (.mv (.t 15))))) []), (.mk (.mk (some 156) none (.m (.pu (.mv (.t 16))))) []), (.mk (.mk (some 157) none (.m (.pu (.ix 1 (.t 155) (.t 156))))) [3, 4]), (.mk (.mk (some 158) none (.m (.ld false 1 (.t 157)))) [5]), (.mk (.mk (some 159) none (.call 21 [(.t 152), (.t 153), (.t 154), (.t 158)])) [0, 1, 2, 6]), (.mk (.mk (some 151) none (.m (.pu (.mv (.t 159))))) [7]), (.mk (.mk (some 160) none (.m (.pu (.ext 0 (.t 151))))) [8]), (.mk (.mk (some 161) none (.m (.pu (.ext 1 (.t 151))))) [8]), (.mk (.mk (some 162) none (.m (.pu (.ext 2 (.t 151))))) [8]), (.mk (.mk (some 19) none (.m (.pu (.mv (.t 160))))) [9, 7, 0, 1, 2, 3, 4, 5, 6, 7, 8, 9]), (.mk (.mk (some 20) none (.m (.pu (.mv (.t 161))))) [10, 12, 0, 1, 2, 3, 4, 5, 6, 7, 8, 9, 10, 12]), (.mk (.mk (some 21) none (.m (.pu (.mv (.t 162))))) [11, 13, 0, 1, 2, 3, 4, 5, 6, 7, 8, 9, 10, 11, 12, 13])]
def fg_law18_VerdictDays_0 : Fg := ⟨[(1, some (.int .u16)), (6, none), (7, none), (8, some tI), (9, some (.sl tyKeep)), (11, some tI), (12, some .bool), (14, some tI)], [(6, some tyPolicy), (7, some tyKeep), (32, none), (5032, none), (10032, none), (15032, none)]⟩
def tb_law18_VerdictDays_0 : TC := (.sq (.sq (.reg [(.mk (some 59) none (.m (.pu (.mv (.t 14))))), (.mk (some 60) none (.m (.pu (.mv (.t 9))))), (.mk (some 61) none (.m (.pu (.len false (.t 60))))), (.mk (some 62) none (.m (.pu (.bin false .lss (.t 59) (.t 61)))))]) (.cd (.t 62) .sk (.fg ⟨[(1, some (.int .u16)), (6, none), (7, none), (8, some tI), (9, some (.sl tyKeep)), (11, some tI), (12, some .bool)], [(6, some tyPolicy), (7, some tyKeep), (32, none), (5032, none), (10032, none), (15032, none)]⟩ (.ex 0)))) (.sq (.bk 1 (.sq (.dr dr_law18_VerdictDays_0 [(0, []), (1, []), (2, []), (3, []), (4, []), (5, []), (6, []), (7, []), (8, []), (9, []), (10, []), (11, []), (12, []), (13, []), (14, []), (15, []), (16, []), (17, []), (18, []), (19, []), (20, []), (21, []), (22, []), (23, []), (24, []), (25, []), (26, []), (27, []), (28, []), (29, []), (30, []), (31, []), (32, []), (33, []), (34, []), (35, []), (36, []), (37, []), (38, []), (39, []), (40, []), (41, []), (42, []), (43, []), (44, [])] (.of [0, 1, 2, 3, 4, 5, 6, 7, 8, 9, 10, 11, 12, 13, 14, 15, 16, 17, 18, 19, 20, 21, 22, 23, 24, 25, 26, 27, 28, 29, 30, 31, 32, 33, 34, 35, 36, 37, 38, 39, 40, 41, 42, 43, 44])) (.cd (.t 109) (.sq (.reg [(.mk (some 4) none (.m (.pu (.mv (.c (.v (.bool false)))))))]) (.fg ⟨[(4, some .bool)], []⟩ .rt)) .sk))) (.reg [(.mk (some 63) none (.m (.pu (.mv (.t 14))))), (.mk (some 64) none (.m (.pu (.bin false .add (.t 63) (.c (.v (.int .i64 1))))))), (.mk (some 14) none (.m (.pu (.mv (.t 64)))))])))
def fg_law18_VerdictDays_1 : Fg := ⟨[(6, none), (7, none), (8, some tI), (9, some (.sl tyKeep)), (11, some tI), (12, some .bool), (15, some (.sl tI)), (16, some tI), (17, some .bool), (18, some tI)], [(6, some tyPolicy), (7, some tyKeep), (32, none), (5032, none), (10032, none), (15032, none)]⟩
def tb_law18_VerdictDays_1 : TC := (.sq (.sq (.reg [(.mk (some 120) none (.m (.pu (.mv (.t 18))))), (.mk (some 121) none (.m (.pu (.mv (.t 9))))), (.mk (some 122) none (.m (.pu (.len false (.t 121))))), (.mk (some 123) none (.m (.pu (.bin false .lss (.t 120) (.t 122)))))]) (.cd (.t 123) .sk (.fg ⟨[(6, none), (7, none), (8, some tI), (9, some (.sl tyKeep)), (11, some tI), (12, some .bool), (15, some (.sl tI)), (16, some tI), (17, some .bool)], [(6, some tyPolicy), (7, some tyKeep), (32, none), (5032, none), (10032, none), (15032, none)]⟩ (.ex 4)))) (.sq (.bk 5 (.dr dr_law18_VerdictDays_1 [(0, []), (1, []), (2, []), (3, []), (4, []), (5, []), (6, []), (7, []), (8, []), (9, []), (10, []), (11, []), (12, []), (13, []), (14, []), (15, []), (16, []), (17, []), (18, []), (19, []), (20, []), (21, []), (22, []), (23, []), (24, []), (25, [])] (.of [0, 1, 2, 3, 4, 5, 6, 7, 8, 9, 10, 11, 12, 13, 14, 15, 16, 17, 18, 19, 20, 21, 22, 23, 24, 25]))) (.reg [(.mk (some 124) none (.m (.pu (.mv (.t 18))))), (.mk (some 125) none (.m (.pu (.bin false .add (.t 124) (.c (.v (.int .i64 1))))))), (.mk (some 18) none (.m (.pu (.mv (.t 125)))))])))
def fg_law18_VerdictDays_2 : Fg := ⟨[(6, none), (7, none), (8, some tI), (9, some (.sl tyKeep)), (11, some tI), (12, some .bool), (15, some (.sl tI)), (16, some tI)], [(6, some tyPolicy), (7, some tyKeep), (32, none), (5032, none), (10032, none), (15032, none)]⟩
def tb_law18_VerdictDays_2 : TC := (.sq (.sq (.reg [(.mk (some 114) none (.m (.pu (.mv (.t 16))))), (.mk (some 115) none (.m (.pu (.mv (.t 15))))), (.mk (some 116) none (.m (.pu (.len false (.t 115))))), (.mk (some 117) none (.m (.pu (.bin false .lss (.t 114) (.t 116)))))]) (.cd (.t 117) .sk (.fg ⟨[(6, none), (7, none), (8, some tI), (9, some (.sl tyKeep)), (11, some tI), (12, some .bool)], [(6, some tyPolicy), (7, some tyKeep), (32, none), (5032, none), (10032, none), (15032, none)]⟩ (.ex 2)))) (.sq (.bk 3 (.sq (.reg [(.mk (some 17) none (.m (.pu (.mv (.c (.v (.bool false)))))))]) (.sq (.sq (.reg [(.mk (some 18) none (.m (.pu (.mv (.c (.v (.int .i64 0)))))))]) (.bk 4 (.lp 1 fg_law18_VerdictDays_1 tb_law18_VerdictDays_1))) (.sq (.dr dr_law18_VerdictDays_2 [(0, [6, 32, 5032, 10032, 15032]), (1, [7]), (2, []), (3, []), (4, []), (5, []), (6, []), (7, [6, 32, 159, 5032, 5159, 10032, 10159, 15032, 15159]), (8, []), (9, []), (10, []), (11, []), (12, []), (13, []), (14, [])] (.of [0, 1, 2, 3, 4, 5, 6, 7, 8, 9, 10, 11, 12, 13, 14])) (.sq (.reg [(.mk (some 163) none (.m (.pu (.mv (.t 21))))), (.mk (some 164) none (.m (.pu (.bin false .neq (.t 163) (.c (.v (.int .i64 0))))))), (.mk (some 165) none (.m (.pu (.mv (.t 164))))), (.mk (some 166) (some (165, false)) (.m (.pu (.mv (.t 19))))), (.mk (some 167) (some (165, false)) (.m (.pu (.mv (.t 17))))), (.mk (some 168) (some (165, false)) (.m (.pu (.bin true .neq (.t 166) (.t 167))))), (.mk (some 169) none (.m (.pu (.pick (.t 165) (.c (.v (.bool true))) (.t 168))))), (.mk (some 170) none (.m (.pu (.mv (.t 169))))), (.mk (some 171) (some (170, false)) (.m (.pu (.mv (.t 12))))), (.mk (some 172) (some (170, false)) (.m (.pu (.mv (.t 171))))), (.mk (some 173) (some (172, true)) (.m (.pu (.mv (.t 15))))), (.mk (some 174) (some (172, true)) (.m (.pu (.mv (.t 16))))), (.mk (some 175) (some (172, true)) (.m (.pu (.ix 1 (.t 173) (.t 174))))), (.mk (some 176) (some (172, true)) (.m (.ld false 1 (.t 175)))), (.mk (some 177) (some (172, true)) (.m (.pu (.mv (.t 11))))), (.mk (some 178) (some (172, true)) (.m (.pu (.bin false .geq (.t 176) (.t 177))))), (.mk (some 179) (some (170, false)) (.m (.pu (.pick (.t 172) (.t 178) (.c (.v (.bool false))))))), (.mk (some 180) (some (170, false)) (.m (.pu (.mv (.t 179))))), (.mk (some 181) (some (180, true)) (.m (.pu (.mv (.t 19))))), (.mk (some 182) (some (170, false)) (.m (.pu (.pick (.t 180) (.t 181) (.c (.v (.bool false))))))), (.mk (some 183) none (.m (.pu (.pick (.t 170) (.c (.v (.bool true))) (.t 182)))))]) (.cd (.t 183) (.sq (.reg [(.mk (some 4) none (.m (.pu (.mv (.c (.v (.bool false)))))))]) (.fg ⟨[(4, some .bool)], []⟩ .rt)) .sk)))))) (.reg [(.mk (some 118) none (.m (.pu (.mv (.t 16))))), (.mk (some 119) none (.m (.pu (.bin false .add (.t 118) (.c (.v (.int .i64 1))))))), (.mk (some 16) none (.m (.pu (.mv (.t 119)))))])))
/-- cipherplan/cipherplanlaw18.VerdictDays -/
def tc_law18_VerdictDays : TC := (.sq (.reg [(.mk (some 4) none (.m (.pu (.mv (.c (.v (.bool false)))))))]) (.sq (.sq (.reg [(.mk (some 25) none (.m (.pu (.mv (.t 0))))), (.mk (some 26) none (.call 14 [(.t 25)])), (.mk (some 27) none (.m (.pu (.nt (.t 26)))))]) (.cd (.t 27) (.sq (.reg [(.mk (some 28) none (.call 12 [])), (.mk (some 4) none (.m (.pu (.mv (.t 28)))))]) .rt) .sk)) (.sq (.reg [(.mk (some 29) none (.m (.pu (.mv (.t 0))))), (.mk (some 30) none (.call 15 [(.t 29)])), (.mk (some 5) none (.m (.pu (.mv (.t 30)))))]) (.sq (.reg [(.mk (some 31) none (.m (.pu (.mv (.t 5))))), (.mk (some 32) none (.call 16 [(.t 31)])), (.mk (some 33) none (.m (.pu (.mv (.t 5))))), (.mk (some 34) none (.call 17 [(.t 33)])), (.mk (some 35) none (.m (.pu (.mv (.t 5))))), (.mk (some 36) none (.call 18 [(.t 35), (.c (.v (.int .i64 4)))])), (.mk (some 37) none (.m (.pu (.bin false .add (.c (.v (.int .i64 1))) (.t 36))))), (.mk (some 6) none (.m (.new [(.v (.slice none 0 0)), (.v (.slice none 0 0))]))), (.mk (some 7) none (.m (.new [(.v (.int .i64 0)), (.v (.int .i64 0))]))), (.mk none none (.m (.st 2 (.t 6) (.t 32)))), (.mk none none (.m (.st 2 (.t 7) (.t 34)))), (.mk (some 8) none (.m (.pu (.mv (.t 37)))))]) (.sq (.reg [(.mk (some 39) none (.m (.ld true 2 (.t 6)))), (.mk (some 40) none (.m (.ld true 2 (.t 7)))), (.mk (some 41) none (.m (.pu (.mv (.t 8))))), (.mk (some 42) none (.call 19 [(.t 39), (.t 40), (.t 41)])), (.mk (some 38) none (.m (.pu (.mv (.t 42))))), (.mk (some 43) none (.m (.pu (.ext 0 (.t 38))))), (.mk (some 44) none (.m (.pu (.ext 1 (.t 38))))), (.mk (some 9) none (.m (.pu (.mv (.t 43))))), (.mk (some 10) none (.m (.pu (.mv (.t 44)))))]) (.sq (.reg [(.mk (some 46) none (.m (.ld true 2 (.t 6)))), (.mk (some 47) none (.m (.ld true 2 (.t 7)))), (.mk (some 48) none (.m (.pu (.mv (.t 8))))), (.mk (some 49) none (.call 20 [(.t 46), (.t 47), (.t 48)])), (.mk (some 45) none (.m (.pu (.mv (.t 49))))), (.mk (some 50) none (.m (.pu (.ext 0 (.t 45))))), (.mk (some 51) none (.m (.pu (.ext 1 (.t 45))))), (.mk (some 52) none (.m (.pu (.ext 2 (.t 45))))), (.mk (some 11) none (.m (.pu (.mv (.t 50))))), (.mk (some 12) none (.m (.pu (.mv (.t 51))))), (.mk (some 13) none (.m (.pu (.mv (.t 52)))))]) (.sq (.sq (.reg [(.mk (some 53) none (.m (.pu (.mv (.t 10))))), (.mk (some 54) none (.m (.pu (.bin false .neq (.t 53) (.c (.v (.int .i64 0))))))), (.mk (some 55) none (.m (.pu (.mv (.t 54))))), (.mk (some 56) (some (55, false)) (.m (.pu (.mv (.t 13))))), (.mk (some 57) (some (55, false)) (.m (.pu (.bin false .neq (.t 56) (.c (.v (.int .i64 0))))))), (.mk (some 58) none (.m (.pu (.pick (.t 55) (.c (.v (.bool true))) (.t 57)))))]) (.cd (.t 58) (.sq (.reg [(.mk (some 4) none (.m (.pu (.mv (.c (.v (.bool false)))))))]) .rt) .sk)) (.sq (.sq (.reg [(.mk (some 14) none (.m (.pu (.mv (.c (.v (.int .i64 0)))))))]) (.bk 0 (.lp 0 fg_law18_VerdictDays_0 tb_law18_VerdictDays_0))) (.sq (.reg [(.mk (some 110) none (.m (.pu (.mv (.t 1))))), (.mk (some 111) none (.m (.pu (.cv .i64 (.t 110))))), (.mk (some 112) none (.m (.pu (.bin false .rem (.t 111) (.c (.v (.int .i64 40001))))))), (.mk (some 113) none (.m (.bs 3 1 23 [(.v (.int .i64 0)), (.v (.int .i64 0)), (.v (.int .i64 0)), (.v (.int .i64 0)), (.v (.int .i64 0)), (.v (.int .i64 0)), (.v (.int .i64 0)), (.v (.int .i64 0)), (.v (.int .i64 0)), (.v (.int .i64 0)), (.v (.int .i64 0)), (.v (.int .i64 0)), (.v (.int .i64 0)), (.v (.int .i64 0)), (.v (.int .i64 0)), (.v (.int .i64 0)), (.v (.int .i64 0)), (.v (.int .i64 0)), (.v (.int .i64 0)), (.v (.int .i64 0)), (.v (.int .i64 0)), (.v (.int .i64 0)), (.v (.int .i64 0))] [(0, 1, (.c (.v (.int .i64 0)))), (1, 1, (.c (.v (.int .i64 6)))), (2, 1, (.c (.v (.int .i64 7)))), (3, 1, (.c (.v (.int .i64 8)))), (4, 1, (.c (.v (.int .i64 9)))), (5, 1, (.c (.v (.int .i64 10)))), (6, 1, (.c (.v (.int .i64 11)))), (7, 1, (.c (.v (.int .i64 26)))), (8, 1, (.c (.v (.int .i64 27)))), (9, 1, (.c (.v (.int .i64 29)))), (10, 1, (.c (.v (.int .i64 30)))), (11, 1, (.c (.v (.int .i64 31)))), (12, 1, (.c (.v (.int .i64 50)))), (13, 1, (.c (.v (.int .i64 99)))), (14, 1, (.c (.v (.int .i64 100)))), (15, 1, (.c (.v (.int .i64 101)))), (16, 1, (.c (.v (.int .i64 120)))), (17, 1, (.c (.v (.int .i64 207)))), (18, 1, (.c (.v (.int .i64 230)))), (19, 1, (.c (.v (.int .i64 299)))), (20, 1, (.c (.v (.int .i64 300)))), (21, 1, (.c (.v (.int .i64 40000)))), (22, 1, (.t 112))]))), (.mk (some 15) none (.m (.pu (.mv (.t 113)))))]) (.sq (.sq (.reg [(.mk (some 16) none (.m (.pu (.mv (.c (.v (.int .i64 0)))))))]) (.bk 2 (.lp 2 fg_law18_VerdictDays_2 tb_law18_VerdictDays_2))) (.sq (.sq (.reg [(.mk (some 184) none (.m (.pu (.mv (.t 12))))), (.mk (some 185) none (.m (.pu (.mv (.t 184))))), (.mk (some 186) (some (185, true)) (.m (.pu (.mv (.t 11))))), (.mk (some 187) (some (185, true)) (.m (.pu (.bin false .gtr (.t 186) (.c (.v (.int .i64 0))))))), (.mk (some 188) none (.m (.pu (.pick (.t 185) (.t 187) (.c (.v (.bool false)))))))]) (.cd (.t 188) (.sq (.reg [(.mk (some 190) none (.m (.ld true 2 (.t 6)))), (.mk (some 191) none (.m (.ld true 2 (.t 7)))), (.mk (some 192) none (.m (.pu (.mv (.t 8))))), (.mk (some 193) none (.m (.pu (.mv (.t 11))))), (.mk (some 194) none (.m (.pu (.bin false .sub (.t 193) (.c (.v (.int .i64 1))))))), (.mk (some 195) none (.call 21 [(.t 190), (.t 191), (.t 192), (.t 194)])), (.mk (some 189) none (.m (.pu (.mv (.t 195))))), (.mk (some 196) none (.m (.pu (.ext 0 (.t 189))))), (.mk (some 197) none (.m (.pu (.ext 1 (.t 189))))), (.mk (some 198) none (.m (.pu (.ext 2 (.t 189))))), (.mk (some 22) none (.m (.pu (.mv (.t 196))))), (.mk (some 23) none (.m (.pu (.mv (.t 197))))), (.mk (some 24) none (.m (.pu (.mv (.t 198)))))]) (.sq (.reg [(.mk (some 199) none (.m (.pu (.mv (.t 24))))), (.mk (some 200) none (.m (.pu (.bin false .eql (.t 199) (.c (.v (.int .i64 0))))))), (.mk (some 201) none (.m (.pu (.mv (.t 200))))), (.mk (some 202) (some (201, true)) (.m (.pu (.mv (.t 22))))), (.mk (some 203) none (.m (.pu (.pick (.t 201) (.t 202) (.c (.v (.bool false))))))), (.mk (some 204) none (.m (.pu (.mv (.t 203))))), (.mk (some 205) (some (204, true)) (.call 12 [])), (.mk (some 206) none (.m (.pu (.pick (.t 204) (.t 205) (.c (.v (.bool false))))))), (.mk (some 4) none (.m (.pu (.mv (.t 206)))))]) .rt)) .sk)) (.sq (.reg [(.mk (some 207) none (.m (.pu (.mv (.t 12))))), (.mk (some 208) none (.m (.pu (.mv (.t 9))))), (.mk (some 209) none (.m (.pu (.len false (.t 208))))), (.mk (some 210) none (.m (.pu (.bin false .eql (.t 209) (.c (.v (.int .i64 0))))))), (.mk (some 211) none (.m (.pu (.mv (.t 210))))), (.mk (some 212) (some (211, false)) (.m (.pu (.mv (.t 9))))), (.mk (some 213) (some (211, false)) (.m (.pu (.mv (.t 9))))), (.mk (some 214) (some (211, false)) (.m (.pu (.len false (.t 213))))), (.mk (some 215) (some (211, false)) (.m (.pu (.bin false .sub (.t 214) (.c (.v (.int .i64 1))))))), (.mk (some 216) (some (211, false)) (.m (.pu (.ix 2 (.t 212) (.t 215))))), (.mk (some 217) (some (211, false)) (.m (.pu (.fa 1 (.t 216))))), (.mk (some 218) (some (211, false)) (.m (.ld false 1 (.t 217)))), (.mk (some 219) (some (211, false)) (.m (.pu (.bin false .leq (.t 218) (.c (.v (.int .i64 40000))))))), (.mk (some 220) none (.m (.pu (.pick (.t 211) (.c (.v (.bool true))) (.t 219))))), (.mk (some 221) none (.m (.pu (.bin true .eql (.t 207) (.t 220))))), (.mk (some 222) none (.m (.pu (.mv (.t 221))))), (.mk (some 223) (some (222, true)) (.call 12 [])), (.mk (some 224) none (.m (.pu (.pick (.t 222) (.t 223) (.c (.v (.bool false))))))), (.mk (some 4) none (.m (.pu (.mv (.t 224)))))]) .rt))))))))))))
def rv_law18_VerdictDays : List (RV × Option Ty) := [((.t 4), some .bool)]
abbrev sh_law18_VerdictDays_0 : Sh := ⟨[(1, .ty (.int .u16)), (6, .ptr 6 0), (7, .ptr 7 0), (8, .ty tI), (9, .ty (.sl tyKeep)), (11, .ty tI), (12, .ty .bool), (14, .ty tI)], [(6, .box tyPolicy), (7, .box tyKeep), (32, .no), (5032, .no), (10032, .no), (15032, .no)]⟩
def st_law18_VerdictDays_0 (x1 : Int) (x8 : Int) (x9 : (List Keep)) (x11 : Int) (x12 : Bool) (x14 : Int) (y6 : Policy) (y7 : Keep) : VS := sh_law18_VerdictDays_0.st (x1, (), (), x8, x9, x11, x12, x14, ()) (y6, y7, (), (), (), (), ())
abbrev sh_law18_VerdictDays_0_ret : Sh := ⟨[(4, .ty .bool)], []⟩
def st_law18_VerdictDays_0_ret (x4 : Bool) : VS := sh_law18_VerdictDays_0_ret.st (x4, ()) ()
abbrev sh_law18_VerdictDays_0_e0 : Sh := ⟨[(1, .ty (.int .u16)), (6, .ptr 6 0), (7, .ptr 7 0), (8, .ty tI), (9, .ty (.sl tyKeep)), (11, .ty tI), (12, .ty .bool)], [(6, .box tyPolicy), (7, .box tyKeep), (32, .no), (5032, .no), (10032, .no), (15032, .no)]⟩
def st_law18_VerdictDays_0_e0 (x1 : Int) (x8 : Int) (x9 : (List Keep)) (x11 : Int) (x12 : Bool) (y6 : Policy) (y7 : Keep) : VS := sh_law18_VerdictDays_0_e0.st (x1, (), (), x8, x9, x11, x12, ()) (y6, y7, (), (), (), (), ())
-- loop 0: (x1 : Int) (x8 : Int) (x9 : (List Keep)) (x11 : Int) (x12 : Bool) (x14 : Int) (y6 : Policy) (y7 : Keep); out: ('ret',) (x4 : Bool); ('exit', 0) (x1 : Int) (x8 : Int) (x9 : (List Keep)) (x11 : Int) (x12 : Bool) (y6 : Policy) (y7 : Keep)
abbrev sh_law18_VerdictDays_1 : Sh := ⟨[(6, .ptr 6 0), (7, .ptr 7 0), (8, .ty tI), (9, .ty (.sl tyKeep)), (11, .ty tI), (12, .ty .bool), (15, .ty (.sl tI)), (16, .ty tI), (17, .ty .bool), (18, .ty tI)], [(6, .box tyPolicy), (7, .box tyKeep), (32, .no), (5032, .no), (10032, .no), (15032, .no)]⟩
def st_law18_VerdictDays_1 (x8 : Int) (x9 : (List Keep)) (x11 : Int) (x12 : Bool) (x15 : (List Int)) (x16 : Int) (x17 : Bool) (x18 : Int) (y6 : Policy) (y7 : Keep) : VS := sh_law18_VerdictDays_1.st ((), (), x8, x9, x11, x12, x15, x16, x17, x18, ()) (y6, y7, (), (), (), (), ())
abbrev sh_law18_VerdictDays_1_e4 : Sh := ⟨[(6, .ptr 6 0), (7, .ptr 7 0), (8, .ty tI), (9, .ty (.sl tyKeep)), (11, .ty tI), (12, .ty .bool), (15, .ty (.sl tI)), (16, .ty tI), (17, .ty .bool)], [(6, .box tyPolicy), (7, .box tyKeep), (32, .no), (5032, .no), (10032, .no), (15032, .no)]⟩
def st_law18_VerdictDays_1_e4 (x8 : Int) (x9 : (List Keep)) (x11 : Int) (x12 : Bool) (x15 : (List Int)) (x16 : Int) (x17 : Bool) (y6 : Policy) (y7 : Keep) : VS := sh_law18_VerdictDays_1_e4.st ((), (), x8, x9, x11, x12, x15, x16, x17, ()) (y6, y7, (), (), (), (), ())
-- loop 1: (x8 : Int) (x9 : (List Keep)) (x11 : Int) (x12 : Bool) (x15 : (List Int)) (x16 : Int) (x17 : Bool) (x18 : Int) (y6 : Policy) (y7 : Keep); out: ('exit', 4) (x8 : Int) (x9 : (List Keep)) (x11 : Int) (x12 : Bool) (x15 : (List Int)) (x16 : Int) (x17 : Bool) (y6 : Policy) (y7 : Keep)
abbrev sh_law18_VerdictDays_2 : Sh := ⟨[(6, .ptr 6 0), (7, .ptr 7 0), (8, .ty tI), (9, .ty (.sl tyKeep)), (11, .ty tI), (12, .ty .bool), (15, .ty (.sl tI)), (16, .ty tI)], [(6, .box tyPolicy), (7, .box tyKeep), (32, .no), (5032, .no), (10032, .no), (15032, .no)]⟩
def st_law18_VerdictDays_2 (x8 : Int) (x9 : (List Keep)) (x11 : Int) (x12 : Bool) (x15 : (List Int)) (x16 : Int) (y6 : Policy) (y7 : Keep) : VS := sh_law18_VerdictDays_2.st ((), (), x8, x9, x11, x12, x15, x16, ()) (y6, y7, (), (), (), (), ())
abbrev sh_law18_VerdictDays_2_ret : Sh := ⟨[(4, .ty .bool)], []⟩
def st_law18_VerdictDays_2_ret (x4 : Bool) : VS := sh_law18_VerdictDays_2_ret.st (x4, ()) ()
abbrev sh_law18_VerdictDays_2_e2 : Sh := ⟨[(6, .ptr 6 0), (7, .ptr 7 0), (8, .ty tI), (9, .ty (.sl tyKeep)), (11, .ty tI), (12, .ty .bool)], [(6, .box tyPolicy), (7, .box tyKeep), (32, .no), (5032, .no), (10032, .no), (15032, .no)]⟩
def st_law18_VerdictDays_2_e2 (x8 : Int) (x9 : (List Keep)) (x11 : Int) (x12 : Bool) (y6 : Policy) (y7 : Keep) : VS := sh_law18_VerdictDays_2_e2.st ((), (), x8, x9, x11, x12, ()) (y6, y7, (), (), (), (), ())
-- loop 2: (x8 : Int) (x9 : (List Keep)) (x11 : Int) (x12 : Bool) (x15 : (List Int)) (x16 : Int) (y6 : Policy) (y7 : Keep); out: ('ret',) (x4 : Bool); ('exit', 2) (x8 : Int) (x9 : (List Keep)) (x11 : Int) (x12 : Bool) (y6 : Policy) (y7 : Keep)
def L_law18_VerdictDays_0 : VS → Option (Bool × List (Bool × Exit × VS)) := mkL sh_law18_VerdictDays_0 (fun x y => (polOk y.1 && (x.2.2.2.2.1 == spansF y.1 y.2.1 x.2.2.2.1) && decide (0 ≤ x.2.2.2.2.2.2.2.1 ∧ x.2.2.2.2.2.2.2.1 ≤ x.2.2.2.2.1.length))) (fun x y => [(true, .exit 0, st_law18_VerdictDays_0_e0 (x.1) (x.2.2.2.1) (x.2.2.2.2.1) (x.2.2.2.2.2.1) (x.2.2.2.2.2.2.1) (y.1) (y.2.1))])
def L_law18_VerdictDays_1 : VS → Option (Bool × List (Bool × Exit × VS)) := mkL sh_law18_VerdictDays_1 (fun x y => (decide (0 ≤ x.2.2.2.2.2.2.2.2.2.1 ∧ x.2.2.2.2.2.2.2.2.2.1 ≤ x.2.2.2.1.length ∧ x.2.2.2.1.length ≤ 100000 ∧ 0 ≤ x.2.2.2.2.2.2.2.1 ∧ x.2.2.2.2.2.2.2.1 < x.2.2.2.2.2.2.1.length))) (fun x y => [(true, .exit 4, st_law18_VerdictDays_1_e4 (x.2.2.1) (x.2.2.2.1) (x.2.2.2.2.1) (x.2.2.2.2.2.1) (x.2.2.2.2.2.2.1) (x.2.2.2.2.2.2.2.1) (x.2.2.2.2.2.2.2.2.1 || (x.2.2.2.1.drop x.2.2.2.2.2.2.2.2.2.1.toNat).any (inB (x.2.2.2.2.2.2.1.getD x.2.2.2.2.2.2.2.1.toNat 0))) (y.1) (y.2.1))])
def L_law18_VerdictDays_2 : VS → Option (Bool × List (Bool × Exit × VS)) := mkL sh_law18_VerdictDays_2 (fun x y => (polOk y.1 && validF y.2.1 && (x.2.2.2.1 == spansF y.1 y.2.1 x.2.2.1) && ((x.2.2.2.2.1, x.2.2.2.2.2.1) == fallL x.2.2.2.1) && x.2.2.2.2.2.2.1.all (fun d => decide (0 ≤ d ∧ d ≤ 40000)) && decide (1 ≤ x.2.2.1 ∧ x.2.2.1 ≤ 4 ∧ 0 ≤ x.2.2.2.2.2.2.2.1 ∧ x.2.2.2.2.2.2.2.1 ≤ x.2.2.2.2.2.2.1.length ∧ x.2.2.2.2.2.2.1.length ≤ 1000))) (fun x y => [(true, .exit 2, st_law18_VerdictDays_2_e2 (x.2.2.1) (x.2.2.2.1) (x.2.2.2.2.1) (x.2.2.2.2.2.1) (y.1) (y.2.1))])
def g_law18_VerdictDays : G := ⟨TYs, [], 225, EL [(12, sp_law18_awake), (14, sp_make_Light), (15, sp_make_Roll), (16, sp_make_Policy), (17, sp_make_Use), (18, sp_make_Dice_Next), (19, sp_verdict_Spans), (20, sp_verdict_Falls), (21, sp_verdict_Allowed)], keeps, (Ls [L_law18_VerdictDays_0, L_law18_VerdictDays_1, L_law18_VerdictDays_2]), IL [], RL []⟩
def b_law18_VerdictDays_0 (x1 : Int) (x8 : Int) (x9 : (List Keep)) (x11 : Int) (x12 : Bool) (x14 : Int) (y6 : Policy) (y7 : Keep) : Option (Exit × VS) :=
  br ((ilt x14 (llen x9)))
    (br (cIx x9 x14)
      (br ((ilt ((lgt tyKeep x9 (Int.toNat x14)).1) 0))
        (some (.ret, st_law18_VerdictDays_0_ret false))
        (br (cIx x9 x14)
          (br (cIx x9 x14)
            (br ((ige ((lgt tyKeep x9 (Int.toNat x14)).1) (((lgt tyKeep x9 (Int.toNat x14)).2).1)))
              (some (.ret, st_law18_VerdictDays_0_ret false))
              (br (cIx x9 x14)
                (br ((igt (((lgt tyKeep x9 (Int.toNat x14)).2).1) 40001))
                  (some (.ret, st_law18_VerdictDays_0_ret false))
                  (br ((igt x14 0))
                    (br (cIx x9 (isub .i64 x14 1))
                      (br (cIx x9 x14)
                        (br ((ige (((lgt tyKeep x9 (Int.toNat (isub .i64 x14 1))).2).1) ((lgt tyKeep x9 (Int.toNat x14)).1)))
                          (some (.ret, st_law18_VerdictDays_0_ret false))
                          (some (.normal, st_law18_VerdictDays_0 x1 x8 x9 x11 x12 (iadd .i64 x14 1) y6 y7)))
                        (none))
                      (none))
                    (some (.normal, st_law18_VerdictDays_0 x1 x8 x9 x11 x12 (iadd .i64 x14 1) y6 y7))))
                (none)))
            (none))
          (none)))
      (none))
    (some (.exit 0, st_law18_VerdictDays_0_e0 x1 x8 x9 x11 x12 y6 y7))
noncomputable def lp_law18_VerdictDays_0 (x1 : Int) (x8 : Int) (x9 : (List Keep)) (x11 : Int) (x12 : Bool) (x14 : Int) (y6 : Policy) (y7 : Keep) : Option (Exit × VS) := loopF (roundF g_law18_VerdictDays fg_law18_VerdictDays_0 tb_law18_VerdictDays_0) (st_law18_VerdictDays_0 x1 x8 x9 x11 x12 x14 y6 y7)
noncomputable def n_law18_VerdictDays_0 (x1 : Int) (x8 : Int) (x9 : (List Keep)) (x11 : Int) (x12 : Bool) (x14 : Int) (y6 : Policy) (y7 : Keep) : Option (Exit × VS) :=
  br ((ilt x14 (llen x9)))
    (br (cIx x9 x14)
      (br ((ilt ((lgt tyKeep x9 (Int.toNat x14)).1) 0))
        (some (.ret, st_law18_VerdictDays_0_ret false))
        (br (cIx x9 x14)
          (br (cIx x9 x14)
            (br ((ige ((lgt tyKeep x9 (Int.toNat x14)).1) (((lgt tyKeep x9 (Int.toNat x14)).2).1)))
              (some (.ret, st_law18_VerdictDays_0_ret false))
              (br (cIx x9 x14)
                (br ((igt (((lgt tyKeep x9 (Int.toNat x14)).2).1) 40001))
                  (some (.ret, st_law18_VerdictDays_0_ret false))
                  (br ((igt x14 0))
                    (br (cIx x9 (isub .i64 x14 1))
                      (br (cIx x9 x14)
                        (br ((ige (((lgt tyKeep x9 (Int.toNat (isub .i64 x14 1))).2).1) ((lgt tyKeep x9 (Int.toNat x14)).1)))
                          (some (.ret, st_law18_VerdictDays_0_ret false))
                          (lp_law18_VerdictDays_0 x1 x8 x9 x11 x12 (iadd .i64 x14 1) y6 y7))
                        (none))
                      (none))
                    (lp_law18_VerdictDays_0 x1 x8 x9 x11 x12 (iadd .i64 x14 1) y6 y7)))
                (none)))
            (none))
          (none)))
      (none))
    (some (.exit 0, st_law18_VerdictDays_0_e0 x1 x8 x9 x11 x12 y6 y7))
def la_law18_VerdictDays_0 (x1 : Int) (x8 : Int) (x9 : (List Keep)) (x11 : Int) (x12 : Bool) (x14 : Int) (y6 : Policy) (y7 : Keep) : Option (Exit × VS) := some (.exit 0, st_law18_VerdictDays_0_e0 (x1) (x8) (x9) (x11) (x12) (y6) (y7))
theorem be_law18_VerdictDays_0 (x1 : Int) (x8 : Int) (x9 : (List Keep)) (x11 : Int) (x12 : Bool) (x14 : Int) (y6 : Policy) (y7 : Keep) : roundF g_law18_VerdictDays fg_law18_VerdictDays_0 tb_law18_VerdictDays_0 (st_law18_VerdictDays_0 x1 x8 x9 x11 x12 x14 y6 y7) = b_law18_VerdictDays_0 x1 x8 x9 x11 x12 x14 y6 y7 := by kernel_rfl
theorem ln_law18_VerdictDays_0 (x1 : Int) (x8 : Int) (x9 : (List Keep)) (x11 : Int) (x12 : Bool) (x14 : Int) (y6 : Policy) (y7 : Keep) : lp_law18_VerdictDays_0 x1 x8 x9 x11 x12 x14 y6 y7 = n_law18_VerdictDays_0 x1 x8 x9 x11 x12 x14 y6 y7 := (loopF_nxt _ _).trans (by
  rw [be_law18_VerdictDays_0]
  simp only [b_law18_VerdictDays_0, n_law18_VerdictDays_0, nxt_br, nxt_n, nxt_r, nxt_e, nxt_0]
  rfl)
def b_law18_VerdictDays_1 (x8 : Int) (x9 : (List Keep)) (x11 : Int) (x12 : Bool) (x15 : (List Int)) (x16 : Int) (x17 : Bool) (x18 : Int) (y6 : Policy) (y7 : Keep) : Option (Exit × VS) :=
  br ((ilt x18 (llen x9)))
    (br (x17)
      (some (.normal, st_law18_VerdictDays_1 x8 x9 x11 x12 x15 x16 true (iadd .i64 x18 1) y6 y7))
      (br (cIx x15 x16)
        (br (cIx x9 x18)
          (br ((ige (lgt tI x15 (Int.toNat x16)) ((lgt tyKeep x9 (Int.toNat x18)).1)))
            (br (cIx x15 x16)
              (br (cIx x9 x18)
                (some (.normal, st_law18_VerdictDays_1 x8 x9 x11 x12 x15 x16 (ilt (lgt tI x15 (Int.toNat x16)) (((lgt tyKeep x9 (Int.toNat x18)).2).1)) (iadd .i64 x18 1) y6 y7))
                (none))
              (none))
            (some (.normal, st_law18_VerdictDays_1 x8 x9 x11 x12 x15 x16 false (iadd .i64 x18 1) y6 y7)))
          (none))
        (none)))
    (some (.exit 4, st_law18_VerdictDays_1_e4 x8 x9 x11 x12 x15 x16 x17 y6 y7))
noncomputable def lp_law18_VerdictDays_1 (x8 : Int) (x9 : (List Keep)) (x11 : Int) (x12 : Bool) (x15 : (List Int)) (x16 : Int) (x17 : Bool) (x18 : Int) (y6 : Policy) (y7 : Keep) : Option (Exit × VS) := loopF (roundF g_law18_VerdictDays fg_law18_VerdictDays_1 tb_law18_VerdictDays_1) (st_law18_VerdictDays_1 x8 x9 x11 x12 x15 x16 x17 x18 y6 y7)
noncomputable def n_law18_VerdictDays_1 (x8 : Int) (x9 : (List Keep)) (x11 : Int) (x12 : Bool) (x15 : (List Int)) (x16 : Int) (x17 : Bool) (x18 : Int) (y6 : Policy) (y7 : Keep) : Option (Exit × VS) :=
  br ((ilt x18 (llen x9)))
    (br (x17)
      (lp_law18_VerdictDays_1 x8 x9 x11 x12 x15 x16 true (iadd .i64 x18 1) y6 y7)
      (br (cIx x15 x16)
        (br (cIx x9 x18)
          (br ((ige (lgt tI x15 (Int.toNat x16)) ((lgt tyKeep x9 (Int.toNat x18)).1)))
            (br (cIx x15 x16)
              (br (cIx x9 x18)
                (lp_law18_VerdictDays_1 x8 x9 x11 x12 x15 x16 (ilt (lgt tI x15 (Int.toNat x16)) (((lgt tyKeep x9 (Int.toNat x18)).2).1)) (iadd .i64 x18 1) y6 y7)
                (none))
              (none))
            (lp_law18_VerdictDays_1 x8 x9 x11 x12 x15 x16 false (iadd .i64 x18 1) y6 y7))
          (none))
        (none)))
    (some (.exit 4, st_law18_VerdictDays_1_e4 x8 x9 x11 x12 x15 x16 x17 y6 y7))
def la_law18_VerdictDays_1 (x8 : Int) (x9 : (List Keep)) (x11 : Int) (x12 : Bool) (x15 : (List Int)) (x16 : Int) (x17 : Bool) (x18 : Int) (y6 : Policy) (y7 : Keep) : Option (Exit × VS) := some (.exit 4, st_law18_VerdictDays_1_e4 (x8) (x9) (x11) (x12) (x15) (x16) (x17 || (x9.drop x18.toNat).any (inB (x15.getD x16.toNat 0))) (y6) (y7))
theorem be_law18_VerdictDays_1 (x8 : Int) (x9 : (List Keep)) (x11 : Int) (x12 : Bool) (x15 : (List Int)) (x16 : Int) (x17 : Bool) (x18 : Int) (y6 : Policy) (y7 : Keep) : roundF g_law18_VerdictDays fg_law18_VerdictDays_1 tb_law18_VerdictDays_1 (st_law18_VerdictDays_1 x8 x9 x11 x12 x15 x16 x17 x18 y6 y7) = b_law18_VerdictDays_1 x8 x9 x11 x12 x15 x16 x17 x18 y6 y7 := by kernel_rfl
theorem ln_law18_VerdictDays_1 (x8 : Int) (x9 : (List Keep)) (x11 : Int) (x12 : Bool) (x15 : (List Int)) (x16 : Int) (x17 : Bool) (x18 : Int) (y6 : Policy) (y7 : Keep) : lp_law18_VerdictDays_1 x8 x9 x11 x12 x15 x16 x17 x18 y6 y7 = n_law18_VerdictDays_1 x8 x9 x11 x12 x15 x16 x17 x18 y6 y7 := (loopF_nxt _ _).trans (by
  rw [be_law18_VerdictDays_1]
  simp only [b_law18_VerdictDays_1, n_law18_VerdictDays_1, nxt_br, nxt_n, nxt_r, nxt_e, nxt_0]
  rfl)
def b_law18_VerdictDays_2 (x8 : Int) (x9 : (List Keep)) (x11 : Int) (x12 : Bool) (x15 : (List Int)) (x16 : Int) (y6 : Policy) (y7 : Keep) : Option (Exit × VS) :=
  br ((ilt x16 (llen x15)))
    (br ((decide (0 ≤ (0 : Int) ∧ (0 : Int) ≤ x9.length ∧ x9.length ≤ 100000 ∧ 0 ≤ x16 ∧ x16 < x15.length)))
      (br (cIx (x15) (x16))
        (br ((polLen4 (y6) (y7) (x8) (lgt tI (x15) (Int.toNat (x16)))))
          (br ((ine (((AllowedF (y6) (y7) (x8) (lgt tI (x15) (Int.toNat (x16)))).2).2) 0))
            (some (.ret, st_law18_VerdictDays_2_ret false))
            (br ((bneq ((AllowedF (y6) (y7) (x8) (lgt tI (x15) (Int.toNat (x16)))).1) (false || (x9.drop (0 : Int).toNat).any (inB (x15.getD x16.toNat 0)))))
              (some (.ret, st_law18_VerdictDays_2_ret false))
              (br ((x12))
                (br (cIx (x15) (x16))
                  (br ((ige (lgt tI (x15) (Int.toNat (x16))) (x11)))
                    (br ((AllowedF (y6) (y7) (x8) (lgt tI (x15) (Int.toNat (x16)))).1)
                      (some (.ret, st_law18_VerdictDays_2_ret false))
                      (some (.normal, st_law18_VerdictDays_2 (x8) (x9) (x11) (x12) (x15) (iadd .i64 (x16) 1) (y6) (y7))))
                    (some (.normal, st_law18_VerdictDays_2 (x8) (x9) (x11) (x12) (x15) (iadd .i64 (x16) 1) (y6) (y7))))
                  (none))
                (some (.normal, st_law18_VerdictDays_2 (x8) (x9) (x11) (x12) (x15) (iadd .i64 (x16) 1) (y6) (y7))))))
          (none))
        (none))
      (none))
    (some (.exit 2, st_law18_VerdictDays_2_e2 x8 x9 x11 x12 y6 y7))
noncomputable def lp_law18_VerdictDays_2 (x8 : Int) (x9 : (List Keep)) (x11 : Int) (x12 : Bool) (x15 : (List Int)) (x16 : Int) (y6 : Policy) (y7 : Keep) : Option (Exit × VS) := loopF (roundF g_law18_VerdictDays fg_law18_VerdictDays_2 tb_law18_VerdictDays_2) (st_law18_VerdictDays_2 x8 x9 x11 x12 x15 x16 y6 y7)
noncomputable def n_law18_VerdictDays_2 (x8 : Int) (x9 : (List Keep)) (x11 : Int) (x12 : Bool) (x15 : (List Int)) (x16 : Int) (y6 : Policy) (y7 : Keep) : Option (Exit × VS) :=
  br ((ilt x16 (llen x15)))
    (br ((decide (0 ≤ (0 : Int) ∧ (0 : Int) ≤ x9.length ∧ x9.length ≤ 100000 ∧ 0 ≤ x16 ∧ x16 < x15.length)))
      (br (cIx (x15) (x16))
        (br ((polLen4 (y6) (y7) (x8) (lgt tI (x15) (Int.toNat (x16)))))
          (br ((ine (((AllowedF (y6) (y7) (x8) (lgt tI (x15) (Int.toNat (x16)))).2).2) 0))
            (some (.ret, st_law18_VerdictDays_2_ret false))
            (br ((bneq ((AllowedF (y6) (y7) (x8) (lgt tI (x15) (Int.toNat (x16)))).1) (false || (x9.drop (0 : Int).toNat).any (inB (x15.getD x16.toNat 0)))))
              (some (.ret, st_law18_VerdictDays_2_ret false))
              (br ((x12))
                (br (cIx (x15) (x16))
                  (br ((ige (lgt tI (x15) (Int.toNat (x16))) (x11)))
                    (br ((AllowedF (y6) (y7) (x8) (lgt tI (x15) (Int.toNat (x16)))).1)
                      (some (.ret, st_law18_VerdictDays_2_ret false))
                      (lp_law18_VerdictDays_2 (x8) (x9) (x11) (x12) (x15) (iadd .i64 (x16) 1) (y6) (y7)))
                    (lp_law18_VerdictDays_2 (x8) (x9) (x11) (x12) (x15) (iadd .i64 (x16) 1) (y6) (y7)))
                  (none))
                (lp_law18_VerdictDays_2 (x8) (x9) (x11) (x12) (x15) (iadd .i64 (x16) 1) (y6) (y7)))))
          (none))
        (none))
      (none))
    (some (.exit 2, st_law18_VerdictDays_2_e2 x8 x9 x11 x12 y6 y7))
def la_law18_VerdictDays_2 (x8 : Int) (x9 : (List Keep)) (x11 : Int) (x12 : Bool) (x15 : (List Int)) (x16 : Int) (y6 : Policy) (y7 : Keep) : Option (Exit × VS) := some (.exit 2, st_law18_VerdictDays_2_e2 (x8) (x9) (x11) (x12) (y6) (y7))
theorem be_law18_VerdictDays_2 (x8 : Int) (x9 : (List Keep)) (x11 : Int) (x12 : Bool) (x15 : (List Int)) (x16 : Int) (y6 : Policy) (y7 : Keep) : roundF g_law18_VerdictDays fg_law18_VerdictDays_2 tb_law18_VerdictDays_2 (st_law18_VerdictDays_2 x8 x9 x11 x12 x15 x16 y6 y7) = b_law18_VerdictDays_2 x8 x9 x11 x12 x15 x16 y6 y7 := by kernel_rfl
theorem ln_law18_VerdictDays_2 (x8 : Int) (x9 : (List Keep)) (x11 : Int) (x12 : Bool) (x15 : (List Int)) (x16 : Int) (y6 : Policy) (y7 : Keep) : lp_law18_VerdictDays_2 x8 x9 x11 x12 x15 x16 y6 y7 = n_law18_VerdictDays_2 x8 x9 x11 x12 x15 x16 y6 y7 := (loopF_nxt _ _).trans (by
  rw [be_law18_VerdictDays_2]
  simp only [b_law18_VerdictDays_2, n_law18_VerdictDays_2, nxt_br, nxt_n, nxt_r, nxt_e, nxt_0]
  rfl)
def r_law18_VerdictDays_1 (p0 : (List Int)) (p1 : Int) : Option (V × List VO) :=
  br ((ieq (llen ((((SpansF ((polV (roll p0)).1, (((polV (roll p0)).2).1, ())) (useV (polN (roll p0))) (iadd .i64 1 (dval (useN (polN (roll p0))) 4))).1)))) 0))
    (br ((beqq (((((FallsF ((polV (roll p0)).1, (((polV (roll p0)).2).1, ())) (useV (polN (roll p0))) (iadd .i64 1 (dval (useN (polN (roll p0))) 4))).2).1))) true))
      (some (.t .bool awakeT, []))
      (some (.t .bool false, [])))
    (br (cIx ((((SpansF ((polV (roll p0)).1, (((polV (roll p0)).2).1, ())) (useV (polN (roll p0))) (iadd .i64 1 (dval (useN (polN (roll p0))) 4))).1))) (isub .i64 (llen ((((SpansF ((polV (roll p0)).1, (((polV (roll p0)).2).1, ())) (useV (polN (roll p0))) (iadd .i64 1 (dval (useN (polN (roll p0))) 4))).1)))) 1))
      (br ((beqq (((((FallsF ((polV (roll p0)).1, (((polV (roll p0)).2).1, ())) (useV (polN (roll p0))) (iadd .i64 1 (dval (useN (polN (roll p0))) 4))).2).1))) (ile (((lgt tyKeep ((((SpansF ((polV (roll p0)).1, (((polV (roll p0)).2).1, ())) (useV (polN (roll p0))) (iadd .i64 1 (dval (useN (polN (roll p0))) 4))).1))) (Int.toNat (isub .i64 (llen ((((SpansF ((polV (roll p0)).1, (((polV (roll p0)).2).1, ())) (useV (polN (roll p0))) (iadd .i64 1 (dval (useN (polN (roll p0))) 4))).1)))) 1))).2).1) 40000)))
        (some (.t .bool awakeT, []))
        (some (.t .bool false, [])))
      (none))
def r_law18_VerdictDays (p0 : (List Int)) (p1 : Int) : Option (V × List VO) :=
  br ((!(light p0)))
    (some (.t .bool awakeT, []))
    (br ((dOk (roll p0)))
      (br ((dOk (polN (roll p0))))
        (br ((nextOk (useN (polN (roll p0))) 4))
          (br ((polLen3 ((polV (roll p0)).1, (((polV (roll p0)).2).1, ())) (useV (polN (roll p0))) (iadd .i64 1 (dval (useN (polN (roll p0))) 4))))
            (br ((polLen3 ((polV (roll p0)).1, (((polV (roll p0)).2).1, ())) (useV (polN (roll p0))) (iadd .i64 1 (dval (useN (polN (roll p0))) 4))))
              (br ((ine ((SpansF ((polV (roll p0)).1, (((polV (roll p0)).2).1, ())) (useV (polN (roll p0))) (iadd .i64 1 (dval (useN (polN (roll p0))) 4))).2) 0))
                (some (.t .bool false, []))
                (br ((ine (((FallsF ((polV (roll p0)).1, (((polV (roll p0)).2).1, ())) (useV (polN (roll p0))) (iadd .i64 1 (dval (useN (polN (roll p0))) 4))).2).2) 0))
                  (some (.t .bool false, []))
                  (br ((polOk ((polV (roll p0)).1, (((polV (roll p0)).2).1, ())) && (((SpansF ((polV (roll p0)).1, (((polV (roll p0)).2).1, ())) (useV (polN (roll p0))) (iadd .i64 1 (dval (useN (polN (roll p0))) 4))).1) == spansF ((polV (roll p0)).1, (((polV (roll p0)).2).1, ())) (useV (polN (roll p0))) (iadd .i64 1 (dval (useN (polN (roll p0))) 4))) && decide (0 ≤ (0 : Int) ∧ (0 : Int) ≤ ((SpansF ((polV (roll p0)).1, (((polV (roll p0)).2).1, ())) (useV (polN (roll p0))) (iadd .i64 1 (dval (useN (polN (roll p0))) 4))).1).length)))
                    (br (cNz 40001)
                      (br ((polOk (((polV (roll p0)).1, (((polV (roll p0)).2).1, ()))) && validF ((useV (polN (roll p0)))) && ((((SpansF ((polV (roll p0)).1, (((polV (roll p0)).2).1, ())) (useV (polN (roll p0))) (iadd .i64 1 (dval (useN (polN (roll p0))) 4))).1)) == spansF (((polV (roll p0)).1, (((polV (roll p0)).2).1, ()))) ((useV (polN (roll p0)))) ((iadd .i64 1 (dval (useN (polN (roll p0))) 4)))) && (((((FallsF ((polV (roll p0)).1, (((polV (roll p0)).2).1, ())) (useV (polN (roll p0))) (iadd .i64 1 (dval (useN (polN (roll p0))) 4))).1)), ((((FallsF ((polV (roll p0)).1, (((polV (roll p0)).2).1, ())) (useV (polN (roll p0))) (iadd .i64 1 (dval (useN (polN (roll p0))) 4))).2).1))) == fallL (((SpansF ((polV (roll p0)).1, (((polV (roll p0)).2).1, ())) (useV (polN (roll p0))) (iadd .i64 1 (dval (useN (polN (roll p0))) 4))).1))) && ([0, 6, 7, 8, 9, 10, 11, 26, 27, 29, 30, 31, 50, 99, 100, 101, 120, 207, 230, 299, 300, 40000, (irem (icv .i64 (p1)) 40001)]).all (fun d => decide (0 ≤ d ∧ d ≤ 40000)) && decide (1 ≤ ((iadd .i64 1 (dval (useN (polN (roll p0))) 4))) ∧ ((iadd .i64 1 (dval (useN (polN (roll p0))) 4))) ≤ 4 ∧ 0 ≤ (0 : Int) ∧ (0 : Int) ≤ ([0, 6, 7, 8, 9, 10, 11, 26, 27, 29, 30, 31, 50, 99, 100, 101, 120, 207, 230, 299, 300, 40000, (irem (icv .i64 (p1)) 40001)]).length ∧ ([0, 6, 7, 8, 9, 10, 11, 26, 27, 29, 30, 31, 50, 99, 100, 101, 120, 207, 230, 299, 300, 40000, (irem (icv .i64 (p1)) 40001)]).length ≤ 1000)))
                        (br ((((((FallsF ((polV (roll p0)).1, (((polV (roll p0)).2).1, ())) (useV (polN (roll p0))) (iadd .i64 1 (dval (useN (polN (roll p0))) 4))).2).1))))
                          (br ((igt ((((FallsF ((polV (roll p0)).1, (((polV (roll p0)).2).1, ())) (useV (polN (roll p0))) (iadd .i64 1 (dval (useN (polN (roll p0))) 4))).1))) 0))
                            (br ((polLen4 ((((polV (roll p0)).1, (((polV (roll p0)).2).1, ())))) (((useV (polN (roll p0))))) (((iadd .i64 1 (dval (useN (polN (roll p0))) 4)))) (isub .i64 ((((FallsF ((polV (roll p0)).1, (((polV (roll p0)).2).1, ())) (useV (polN (roll p0))) (iadd .i64 1 (dval (useN (polN (roll p0))) 4))).1))) 1)))
                              (br ((ieq (((AllowedF ((((polV (roll p0)).1, (((polV (roll p0)).2).1, ())))) (((useV (polN (roll p0))))) (((iadd .i64 1 (dval (useN (polN (roll p0))) 4)))) (isub .i64 ((((FallsF ((polV (roll p0)).1, (((polV (roll p0)).2).1, ())) (useV (polN (roll p0))) (iadd .i64 1 (dval (useN (polN (roll p0))) 4))).1))) 1)).2).2) 0))
                                (br ((AllowedF ((((polV (roll p0)).1, (((polV (roll p0)).2).1, ())))) (((useV (polN (roll p0))))) (((iadd .i64 1 (dval (useN (polN (roll p0))) 4)))) (isub .i64 ((((FallsF ((polV (roll p0)).1, (((polV (roll p0)).2).1, ())) (useV (polN (roll p0))) (iadd .i64 1 (dval (useN (polN (roll p0))) 4))).1))) 1)).1)
                                  (some (.t .bool awakeT, []))
                                  (some (.t .bool false, [])))
                                (some (.t .bool false, [])))
                              (none))
                            (r_law18_VerdictDays_1 p0 p1))
                          (r_law18_VerdictDays_1 p0 p1))
                        (none))
                      (none))
                    (none))))
              (none))
            (none))
          (none))
        (none))
      (none))
theorem e_law18_VerdictDays (p0 : (List Int)) (p1 : Int) : runF g_law18_VerdictDays tc_law18_VerdictDays rv_law18_VerdictDays false [.t (.sl tI) p0, .t (.int .u16) p1] [] = r_law18_VerdictDays p0 p1 := by kernel_rfl
theorem ok_law18_VerdictDays : Option.map (trC Try.prog) Try.f4.body = some tc_law18_VerdictDays.er := by kernel_rfl
theorem rok_law18_VerdictDays : trVs Try.prog Try.f4.results.toList = some (rv_law18_VerdictDays.map Prod.fst) := by kernel_rfl
theorem en_law18_VerdictDays : Entered Try.prog 4 := .inr ⟨by decide, _, Try.func4, by kernel_rfl, by kernel_rfl⟩
theorem gk_law18_VerdictDays : GOk Try.prog g_law18_VerdictDays := gok_of _ (by
  intro p hp
  simp only [List.mem_cons, List.not_mem_nil, or_false] at hp
  rcases hp with rfl | rfl | rfl | rfl | rfl | rfl | rfl | rfl | rfl
  · exact ⟨en_law18_awake, ms_law18_awake⟩
  · exact ⟨en_make_Light, ms_make_Light⟩
  · exact ⟨en_make_Roll, ms_make_Roll⟩
  · exact ⟨en_make_Policy, ms_make_Policy⟩
  · exact ⟨en_make_Use, ms_make_Use⟩
  · exact ⟨en_make_Dice_Next, ms_make_Dice_Next⟩
  · exact ⟨en_verdict_Spans, ms_verdict_Spans⟩
  · exact ⟨en_verdict_Falls, ms_verdict_Falls⟩
  · exact ⟨en_verdict_Allowed, ms_verdict_Allowed⟩)
theorem l_law18_VerdictDays_0 (x1 : Int) (x8 : Int) (x9 : (List Keep)) (x11 : Int) (x12 : Bool) (x14 : Int) (y6 : Policy) (y7 : Keep) (h : (polOk y6 && (x9 == spansF y6 y7 x8) && decide (0 ≤ x14 ∧ x14 ≤ x9.length)) = true) : lp_law18_VerdictDays_0 x1 x8 x9 x11 x12 x14 y6 y7 = la_law18_VerdictDays_0 x1 x8 x9 x11 x12 x14 y6 y7 := by
  simp only [Bool.and_eq_true, decide_eq_true_eq, beq_iff_eq] at h
  obtain ⟨⟨hp, rfl⟩, h1, h2⟩ := h
  have hw := spans_ws (u := y7) (p := x8) hp
  have hl := spans_len y6 y7 x8
  have h60 := polOk_len hp
  obtain ⟨k, rfl⟩ := Int.eq_ofNat_of_zero_le h1
  generalize spansF y6 y7 x8 = s at hw hl h2 ⊢
  refine range_ind s (fun k => lp_law18_VerdictDays_0 x1 x8 s x11 x12 (k : Int) y6 y7 = la_law18_VerdictDays_0 x1 x8 s x11 x12 (k : Int) y6 y7) ?_ ?_ k (by omega)
  · rw [ln_law18_VerdictDays_0]
    simp [n_law18_VerdictDays_0, la_law18_VerdictDays_0, ilt_nat, llen, br_false]
  · intro k hk ih
    rw [ln_law18_VerdictDays_0]
    have g := hw.2 s[k] (List.getElem_mem hk)
    simp only [n_law18_VerdictDays_0, ilt_nat, llen, cIx_nat, hk, decide_true, br_true, Int.toNat_natCast, add1 (show k < 4611686018427387904 by omega), lgt_get (y := tyKeep) hk, ih]
    rw [show ilt s[k].1 0 = false by simp only [ilt, decide_eq_false_iff_not]; omega, br_false, show ige s[k].1 s[k].2.1 = false by simp only [ige, decide_eq_false_iff_not]; omega, br_false, show igt s[k].2.1 40001 = false by simp only [igt, decide_eq_false_iff_not]; omega, br_false]
    by_cases hk0 : k = 0
    · subst hk0
      rfl
    · have hk1 : k - 1 < s.length := by omega
      have e1 : isub .i64 (k : Int) 1 = ((k - 1 : Nat) : Int) := by rw [isub_in (by omega)]; omega
      have e2 : igt (k : Int) 0 = true := by simp only [igt, decide_eq_true_eq]; omega
      have g2 := (List.pairwise_iff_getElem.1 hw.1) (k - 1) k hk1 hk (by omega)
      rw [e1, e2, br_true]
      simp only [cIx_nat, hk1, decide_true, br_true, Int.toNat_natCast, lgt_get (y := tyKeep) hk1]
      rw [show ige s[k - 1].2.1 s[k].1 = false by simp only [ige, decide_eq_false_iff_not]; omega, br_false]
      rfl
theorem l_law18_VerdictDays_1 (x8 : Int) (x9 : (List Keep)) (x11 : Int) (x12 : Bool) (x15 : (List Int)) (x16 : Int) (x17 : Bool) (x18 : Int) (y6 : Policy) (y7 : Keep) (h : (decide (0 ≤ x18 ∧ x18 ≤ x9.length ∧ x9.length ≤ 100000 ∧ 0 ≤ x16 ∧ x16 < x15.length)) = true) : lp_law18_VerdictDays_1 x8 x9 x11 x12 x15 x16 x17 x18 y6 y7 = la_law18_VerdictDays_1 x8 x9 x11 x12 x15 x16 x17 x18 y6 y7 := by
  simp only [decide_eq_true_eq] at h
  obtain ⟨h1, h2, h3, h4, h5⟩ := h
  obtain ⟨k, rfl⟩ := Int.eq_ofNat_of_zero_le h1
  obtain ⟨a, rfl⟩ := Int.eq_ofNat_of_zero_le h4
  have ha : a < x15.length := by omega
  have eg : x15.getD a 0 = x15[a] := by rw [List.getD_eq_getElem?_getD, List.getElem?_eq_getElem ha]; rfl
  revert x17
  refine range_ind x9 (fun k => ∀ x17 : Bool, lp_law18_VerdictDays_1 x8 x9 x11 x12 x15 (a : Int) x17 (k : Int) y6 y7 = la_law18_VerdictDays_1 x8 x9 x11 x12 x15 (a : Int) x17 (k : Int) y6 y7) ?_ ?_ k (by omega)
  · intro x17
    rw [ln_law18_VerdictDays_1]
    simp [n_law18_VerdictDays_1, la_law18_VerdictDays_1, ilt_nat, llen, br_false]
  · intro k hk ih x17
    rw [ln_law18_VerdictDays_1]
    simp only [n_law18_VerdictDays_1, ilt_nat, llen, cIx_nat, hk, ha, decide_true, br_true, Int.toNat_natCast, add1 (show k < 4611686018427387904 by omega), lgt_get (y := tyKeep) hk, lgt_get (y := tI) ha, ih]
    simp only [la_law18_VerdictDays_1, Int.toNat_natCast, eg, List.drop_eq_getElem_cons hk, List.any_cons, inB]
    cases x17 with
    | true => rfl
    | false =>
      simp only [br_false, Bool.false_or]
      cases ige x15[a] x9[k].1 <;> cases ilt x15[a] x9[k].2.1 <;> simp [br_true, br_false]
theorem l_law18_VerdictDays_2 (x8 : Int) (x9 : (List Keep)) (x11 : Int) (x12 : Bool) (x15 : (List Int)) (x16 : Int) (y6 : Policy) (y7 : Keep) (h : (polOk y6 && validF y7 && (x9 == spansF y6 y7 x8) && ((x11, x12) == fallL x9) && x15.all (fun d => decide (0 ≤ d ∧ d ≤ 40000)) && decide (1 ≤ x8 ∧ x8 ≤ 4 ∧ 0 ≤ x16 ∧ x16 ≤ x15.length ∧ x15.length ≤ 1000)) = true) : lp_law18_VerdictDays_2 x8 x9 x11 x12 x15 x16 y6 y7 = la_law18_VerdictDays_2 x8 x9 x11 x12 x15 x16 y6 y7 := by
  simp only [Bool.and_eq_true, decide_eq_true_eq, beq_iff_eq, List.all_eq_true] at h
  obtain ⟨⟨⟨⟨⟨hp, hv⟩, rfl⟩, hf⟩, hall⟩, h1, h2, h3, h4, h5⟩ := h
  have hl := spans_len y6 y7 x8
  have h60 := polOk_len hp
  obtain ⟨k, rfl⟩ := Int.eq_ofNat_of_zero_le h3
  refine range_ind x15 (fun k => lp_law18_VerdictDays_2 x8 (spansF y6 y7 x8) x11 x12 x15 (k : Int) y6 y7 = la_law18_VerdictDays_2 x8 (spansF y6 y7 x8) x11 x12 x15 (k : Int) y6 y7) ?_ ?_ k (by omega)
  · rw [ln_law18_VerdictDays_2]
    simp [n_law18_VerdictDays_2, la_law18_VerdictDays_2, ilt_nat, llen, br_false]
  · intro k hk ih
    rw [ln_law18_VerdictDays_2]
    have hd := hall x15[k] (List.getElem_mem hk)
    have hpl : ∀ u q d, polLen4 y6 u q d = true := fun u q d => (pol_len hp).1
    have eg : x15.getD k 0 = x15[k] := by rw [List.getD_eq_getElem?_getD, List.getElem?_eq_getElem hk]; rfl
    have ee : earlyF y6 y7 x8 x15[k] = 0 := by
      unfold earlyF
      rw [hp, hv]
      simp only [Bool.true_eq_false, if_false]
      rw [if_neg (by omega)]
    have ea : AllowedF y6 y7 x8 x15[k] = (allF y6 y7 x8 x15[k], decF y6 y7 x8 x15[k], 0) := by unfold AllowedF; rw [if_pos ee]
    have ei := in_eq (u := y7) (p := x8) hp hd.1 hd.2
    simp only [n_law18_VerdictDays_2, ilt_nat, llen, cIx_nat, hk, decide_true, br_true, Int.toNat_natCast, add1 (show k < 4611686018427387904 by omega), lgt_get (y := tI) hk, hpl, ea, ih, Int.toNat_zero, List.drop_zero, Bool.false_or, eg, ei]
    rw [dec_true ⟨Int.le_refl 0, by omega, by omega, by omega, by omega⟩, br_true, show ine 0 0 = false from rfl, br_false, show bneq (allF y6 y7 x8 x15[k]) (allF y6 y7 x8 x15[k]) = false by cases allF y6 y7 x8 x15[k] <;> rfl, br_false]
    have el : la_law18_VerdictDays_2 x8 (spansF y6 y7 x8) x11 x12 x15 (k : Int) y6 y7 = la_law18_VerdictDays_2 x8 (spansF y6 y7 x8) x11 x12 x15 ((k + 1 : Nat) : Int) y6 y7 := rfl
    rw [el]
    cases x12 with
    | false => rfl
    | true =>
      rw [br_true]
      refine br_intro (fun g => ?_) (fun _ => rfl)
      simp only [ige, decide_eq_true_eq] at g
      rw [fall_after hp hf.symm hd.1 hd.2 g, br_false]
theorem lo_law18_VerdictDays_0 : ∀ S l p, g_law18_VerdictDays.L 0 (fgt fg_law18_VerdictDays_0 S) = some (true, l) → pickA l = some p → loopF (roundF g_law18_VerdictDays fg_law18_VerdictDays_0 tb_law18_VerdictDays_0) S = some p :=
  lok_of (s := sh_law18_VerdictDays_0) ⟨by decide, by decide⟩ (by kernel_rfl) fun x y hok p hp => by
  simp only [pickA_br, pickA_one] at hp
  exact (l_law18_VerdictDays_0 x.1 x.2.2.2.1 x.2.2.2.2.1 x.2.2.2.2.2.1 x.2.2.2.2.2.2.1 x.2.2.2.2.2.2.2.1 y.1 y.2.1 (by simpa using hok)).trans hp
theorem lo_law18_VerdictDays_1 : ∀ S l p, g_law18_VerdictDays.L 1 (fgt fg_law18_VerdictDays_1 S) = some (true, l) → pickA l = some p → loopF (roundF g_law18_VerdictDays fg_law18_VerdictDays_1 tb_law18_VerdictDays_1) S = some p :=
  lok_of (s := sh_law18_VerdictDays_1) ⟨by decide, by decide⟩ (by kernel_rfl) fun x y hok p hp => by
  simp only [pickA_br, pickA_one] at hp
  exact (l_law18_VerdictDays_1 x.2.2.1 x.2.2.2.1 x.2.2.2.2.1 x.2.2.2.2.2.1 x.2.2.2.2.2.2.1 x.2.2.2.2.2.2.2.1 x.2.2.2.2.2.2.2.2.1 x.2.2.2.2.2.2.2.2.2.1 y.1 y.2.1 (by simpa using hok)).trans hp
theorem lo_law18_VerdictDays_2 : ∀ S l p, g_law18_VerdictDays.L 2 (fgt fg_law18_VerdictDays_2 S) = some (true, l) → pickA l = some p → loopF (roundF g_law18_VerdictDays fg_law18_VerdictDays_2 tb_law18_VerdictDays_2) S = some p :=
  lok_of (s := sh_law18_VerdictDays_2) ⟨by decide, by decide⟩ (by kernel_rfl) fun x y hok p hp => by
  simp only [pickA_br, pickA_one] at hp
  exact (l_law18_VerdictDays_2 x.2.2.1 x.2.2.2.1 x.2.2.2.2.1 x.2.2.2.2.2.1 x.2.2.2.2.2.2.1 x.2.2.2.2.2.2.2.1 y.1 y.2.1 (by simpa using hok)).trans hp
theorem lk_law18_VerdictDays : tc_law18_VerdictDays.lok g_law18_VerdictDays := by
  repeat (first | exact trivial | exact lo_law18_VerdictDays_0 | exact lo_law18_VerdictDays_1 | exact lo_law18_VerdictDays_2 | refine ⟨?_, ?_⟩)
theorem s_law18_VerdictDays (p0 : List Int) (p1 : Int) (h : d16Ok p0 p1 = true) : r_law18_VerdictDays p0 p1 = some (.t .bool (lawDays p0 p1), []) := by
  simp only [d16Ok, decide_eq_true_eq] at h
  unfold r_law18_VerdictDays
  refine br_intro (fun _ => rfl) (fun g1 => ?_)
  have hd := not_light g1
  have hN : dOk (polN (roll p0)) = true := dOk_pol hd
  have hy : ((polV (roll p0)).1, ((polV (roll p0)).2.1, ())) = polV (roll p0) := rfl
  have hp := pol_ok (roll p0)
  have hv := use_valid (polN (roll p0))
  have hq := dval_lt (d := useN (polN (roll p0))) (n := 4) (by omega)
  have eq : iadd .i64 1 (dval (useN (polN (roll p0))) 4) = 1 + dval (useN (polN (roll p0))) 4 := iadd_in (by omega)
  have em : irem (icv .i64 p1) 40001 = p1 % 40001 := by
    rw [show icv .i64 p1 = p1 from Go.IntWalk.i64_in _ (by omega)]
    unfold irem
    rw [Int.tmod_eq_emod_of_nonneg h.1]
  simp only [r_law18_VerdictDays_1, hy, eq]
  generalize hQ : 1 + dval (useN (polN (roll p0))) 4 = q
  have hq1 : 1 ≤ q ∧ q ≤ 4 := by omega
  generalize useV (polN (roll p0)) = u at hv ⊢
  have n4 := nextOkI (n := 4) (dOk_use hN) rfl
  generalize polV (roll p0) = y at hp ⊢
  have hpl : polLen3 y u q = true := (pol_len hp).1
  have hp4 : ∀ d, polLen4 y u q d = true := fun d => (pol_len hp).1
  have ee : ∀ d, 0 ≤ d → d ≤ 40000 → earlyF y u q d = 0 := fun d d1 d2 => by
    unfold earlyF
    rw [hp, hv]
    simp only [Bool.true_eq_false, if_false]
    rw [if_neg (by omega)]
  have es : SpansF y u q = (spansF y u q, 0) := by unfold SpansF; rw [if_pos (ee 0 (by omega) (by omega))]
  have ef : FallsF y u q = ((fallL (spansF y u q)).1, (fallL (spansF y u q)).2, 0) := by unfold FallsF; rw [if_pos (ee 0 (by omega) (by omega))]
  simp only [hd, hN, n4, hpl, hp4, br_true, es, ef, show ine 0 0 = false from rfl, br_false, show cNz 40001 = true from rfl, hp, hv, beq_self_eq_true, Bool.true_and, em]
  rw [dec_true (by omega), br_true, dec_true (by simp; omega), Bool.and_true]
  have hall : (([0, 6, 7, 8, 9, 10, 11, 26, 27, 29, 30, 31, 50, 99, 100, 101, 120, 207, 230, 299, 300, 40000, p1 % 40001] : List Int).all fun d => decide (0 ≤ d ∧ d ≤ 40000)) = true := by
    simp
    omega
  have hT : br (ieq (llen (spansF y u q)) 0)
      (br (beqq (fallL (spansF y u q)).snd true) (some (V.t .bool awakeT, ([] : List VO))) (some (V.t .bool false, [])))
      (br (cIx (spansF y u q) (isub .i64 (llen (spansF y u q)) 1))
        (br (beqq (fallL (spansF y u q)).snd (ile (lgt tyKeep (spansF y u q) (isub .i64 (llen (spansF y u q)) 1).toNat).snd.fst 40000)) (some (V.t .bool awakeT, [])) (some (V.t .bool false, [])))
        none) = some (V.t .bool awakeT, []) := by
    have hl := spans_len y u q
    have h60 := polOk_len hp
    rcases fall_cases (u := u) (p := q) hp with ⟨e, e'⟩ | ⟨l, s, e, g1, g2, g3, _, e'⟩
    · rw [e', e]
      rfl
    · rw [e']
      rw [e] at hl ⊢
      have e1 : isub .i64 (llen (l ++ [s])) 1 = (l.length : Int) := by
        have : llen (l ++ [s]) = (l.length : Int) + 1 := by simp [llen]
        rw [this, isub_in (by rw [List.length_append, List.length_singleton] at hl; omega)]
        omega
      have h2 : l.length < (l ++ [s]).length := by simp
      have e2 : ieq (llen (l ++ [s])) 0 = false := by simp only [ieq_dec, llen, List.length_append, List.length_singleton, decide_eq_false_iff_not]; omega
      have e4 : lgt tyKeep (l ++ [s]) l.length = s := by rw [lgt_get (y := tyKeep) h2]; simp
      rw [e1, e2]
      simp only [br_false, cIx_nat, h2, decide_true, br_true, Int.toNat_natCast, e4, ile]
      by_cases hs : s.2.1 ≤ 40000
      · simp only [hs, if_true, decide_true]
        rfl
      · simp only [hs, if_false, decide_false]
        rfl
  rw [hall, br_true, hT]
  cases hf2 : (fallL (spansF y u q)).2 with
  | false => rfl
  | true =>
    rw [br_true]
    refine br_intro (fun g => ?_) (fun _ => rfl)
    simp only [igt, decide_eq_true_eq] at g
    obtain ⟨b1, b2⟩ := fall_before (u := u) (p := q) (f := (fallL (spansF y u q)).1) hp (by rw [← hf2]) g
    have e5 : isub .i64 (fallL (spansF y u q)).1 1 = (fallL (spansF y u q)).1 - 1 := isub_in (by omega)
    have ea : AllowedF y u q ((fallL (spansF y u q)).1 - 1) = (allF y u q ((fallL (spansF y u q)).1 - 1), decF y u q ((fallL (spansF y u q)).1 - 1), 0) := by unfold AllowedF; rw [if_pos (ee _ (by omega) (by omega))]
    rw [e5, ea, b2]
    rfl
def sp_law18_VerdictDays : Ent := spec (.pr (.sl tI) (.pr (.int .u16) .nil)) (fun x => (d16Ok x.1 x.2.1)) (fun x => (.t .bool (lawDays x.1 x.2.1)))
theorem ms_law18_VerdictDays : Meets Try.prog 4 (strip sp_law18_VerdictDays) := by
  obtain ⟨c, hc, hi⟩ := Option.map_eq_some_iff.1 ok_law18_VerdictDays
  exact meets_spec (R := runF g_law18_VerdictDays tc_law18_VerdictDays rv_law18_VerdictDays false) (meets_of (by decide) Try.func4 hc hi Try.ntmps4 rok_law18_VerdictDays gk_law18_VerdictDays lk_law18_VerdictDays mixed) fun x hok => (e_law18_VerdictDays x.1 x.2.1).trans (s_law18_VerdictDays x.1 x.2.1 hok)
theorem okw_VerdictDays (z0 : List Int) (z1 : Int) (w0 : Ty.wf (.sl (.int .i64)) z0) (w1 : Ty.wf (.int .u16) z1) : d16Ok z0 z1 = true := decide_eq_true (wf_u16 w1)
theorem walkVerdictDays (z0 : (List Int)) (z1 : Int) (W : World) (v0 : Value) (v1 : Value) (c0 : C noX W (fun _ => .no) (V.t (.sl tI) z0).d v0) (c1 : C noX W (fun _ => .no) (V.t (.int .u16) z1).d v1) (w0 : Ty.wf (.sl tI) z0) (w1 : Ty.wf (.int .u16) z1) :
    Calls Try.prog 4 #[v0, v1] W fun r w' => r = .returned (.bool true) ∧ Below W.heap.size W w' :=
  calls_true (by decide) ms_law18_VerdictDays (args := [.t (.sl tI) z0, .t (.int .u16) z1]) (strip_spec (x := (z0, z1, ())) rfl (okw_VerdictDays z0 z1 w0 w1)) (by simp only [V.ds, Cs]; exact ⟨_, _, rfl, c0, _, _, rfl, c1, rfl⟩)
end
end Go.Proofs.Ytfldcnhkppgmbaa.K
