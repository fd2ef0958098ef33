/-
  The law that all functions for policies and uses answer as said.
-/
import Derived.Test.YtfldcnhkppgmbaaV14
import Derived.Test.YtfldcnhkppgmbaaM2
import Derived.Test.YtfldcnhkppgmbaaKD
set_option linter.unusedSimpArgs false
set_option linter.unusedVariables false
namespace Go.Proofs.Ytfldcnhkppgmbaa.K
open Go.RowKit
noncomputable section
/-! facts for the laws -/
theorem ieq_self (a : Int) : ieq a a = true := by simp [ieq]
theorem beqq_self (a : Bool) : beqq a a = true := by cases a <;> rfl
theorem same_self (l : List Keep) : same l l = true := by simp [same]
theorem not_light {l : List Int} (h : (!light l) = false) : dOk (roll l) = true := dOk_roll (by simpa using h)
theorem nextOkI {d : Dice} {n : Int} (h : dOk d = true) (hn : decide (n < 4611686018427387904) = true) : nextOk d n = true := by unfold nextOk; rw [h, hn]; rfl
theorem oneOkI {d : Dice} {n : Int} (h : dOk d = true) (hn : decide (n < 4611686018427387904) = true) (h0 : decide (0 ≤ n) = true) : oneOk d n = true := by unfold oneOk; rw [nextOkI h hn, h0]; rfl
theorem ofOkI {d : Dice} {l : List Int} (h : dOk d = true) (hl : decide (0 < l.length ∧ l.length < 4611686018427387904) = true) : ofOk d l = true := by unfold ofOk; rw [h, hl]; rfl
theorem spans_ok {y : Policy} {u : Keep} {p : Int} {b : List Keep} (h : polLen y = true) : sameOk0 (SpansF y u p).1 b = true := by
  have := spans_len y u p
  simp only [polLen, lenOk5, Bool.and_eq_true, decide_eq_true_eq] at h
  unfold sameOk0 SpansF
  rw [decide_eq_true_eq]
  split
  · simp only; omega
  · simp
theorem pol_lenI (d : Dice) : polLen ((polV d).1, ((polV d).2.1, ())) = true := by
  have := pol_size d
  simp only [polLen, lenOk5, Bool.and_eq_true, decide_eq_true_eq]
  omega
theorem pol_lenA (d : Dice) (r : Rule) : polLen ((polV d).1 ++ [r], ((polV d).2.1, ())) = true := by
  have := pol_size d
  simp only [polLen, lenOk5, Bool.and_eq_true, decide_eq_true_eq, List.length_append, List.length_singleton]
  omega
def lawMade (_ : List Int) (_ : Keep) (_ : Int) : Bool := true
def dr_law18_VerdictMade_0 : List DO := [(.mk (.mk (some 59) none (.m (.pu (.fa 0 (.t 8))))) []), (.mk (.mk (some 60) none (.m (.ld false 1 (.t 59)))) [0]), (.mk (.mk (some 61) none (.m (.pu (.mv (.t 7))))) []), (.mk (.mk (some 62) none (.m (.bs 3 1 2 [(.v (.int .i64 0)), (.v (.int .i64 0))] [(0, 1, (.c (.v (.int .i64 (-1))))), (1, 1, (.c (.v (.int .i64 3))))]))) []), (.mk (.mk (some 63) none (.call 22 [(.t 61), (.t 62)])) [2, 3]), (.mk (.mk (some 64) none (.m (.pu (.mv (.t 7))))) []), (.mk (.mk (some 65) none (.m (.bs 3 1 2 [(.v (.int .i64 0)), (.v (.int .i64 0))] [(0, 1, (.c (.v (.int .i64 5)))), (1, 1, (.c (.v (.int .i64 9))))]))) []), (.mk (.mk (some 66) none (.call 22 [(.t 64), (.t 65)])) [5, 6, 4]), (.mk (.mk (some 67) none (.m (.pu (.bd [(.v (.bool false)), (.v (.int .i64 0)), (.v (.int .i64 0)), (.v (.int .i64 0)), (.v (.int .i64 0)), (.v (.int .i64 0))] [(1, 1, (.t 63)), (4, 1, (.c (.v (.int .i64 5)))), (5, 1, (.t 66))])))) [4, 7]), (.mk (.mk (some 68) none (.m (.bs 56 6 1 [(.v (.bool false)), (.v (.int .i64 0)), (.v (.int .i64 0)), (.v (.int .i64 0)), (.v (.int .i64 0)), (.v (.int .i64 0))] [(0, 6, (.t 67))]))) [8]), (.mk (.mk (some 69) none (.m (.app 56 6 48 (.t 60) (.t 68)))) [1, 9, 7]), (.mk (.mk (some 70) none (.m (.pu (.fa 0 (.t 8))))) [0, 1, 2, 3, 4, 5, 6, 7, 8, 9, 10]), (.mk (.mk none none (.m (.st 1 (.t 70) (.t 69)))) [11, 10, 10, 0, 1, 2, 3, 4, 5, 6, 7, 8, 9, 10])]
def dr_law18_VerdictMade_1 : List DO := [(.mk (.mk (some 119) none (.m (.pu (.mv (.t 12))))) []), (.mk (.mk (some 120) none (.m (.pu (.mv (.t 15))))) []), (.mk (.mk (some 121) none (.m (.pu (.bin true .eql (.t 119) (.t 120))))) [0, 1]), (.mk (.mk (some 122) none (.m (.pu (.mv (.t 121))))) [2]), (.mk (.mk (some 123) (some (122, true)) (.m (.pu (.mv (.t 13))))) [3]), (.mk (.mk (some 124) (some (122, true)) (.m (.pu (.mv (.t 16))))) [3]), (.mk (.mk (some 125) (some (122, true)) (.m (.pu (.bin false .eql (.t 123) (.t 124))))) [4, 5, 3]), (.mk (.mk (some 126) none (.m (.pu (.pick (.t 122) (.t 125) (.c (.v (.bool false))))))) [3, 6]), (.mk (.mk (some 127) none (.m (.pu (.mv (.t 126))))) [7, 3]), (.mk (.mk (some 128) (some (127, true)) (.m (.pu (.mv (.t 14))))) [8]), (.mk (.mk (some 129) (some (127, true)) (.m (.pu (.mv (.t 17))))) [8]), (.mk (.mk (some 130) (some (127, true)) (.m (.pu (.bin false .eql (.t 128) (.t 129))))) [9, 10, 8]), (.mk (.mk (some 131) none (.m (.pu (.pick (.t 127) (.t 130) (.c (.v (.bool false))))))) [8, 11]), (.mk (.mk (some 132) none (.m (.pu (.mv (.t 131))))) [12, 8]), (.mk (.mk (some 133) (some (132, true)) (.m (.pu (.mv (.t 19))))) [13]), (.mk (.mk (some 134) (some (132, true)) (.m (.pu (.mv (.t 21))))) [13]), (.mk (.mk (some 135) (some (132, true)) (.m (.pu (.bin false .eql (.t 133) (.t 134))))) [14, 15, 13]), (.mk (.mk (some 136) none (.m (.pu (.pick (.t 132) (.t 135) (.c (.v (.bool false))))))) [13, 16]), (.mk (.mk (some 137) none (.m (.pu (.mv (.t 136))))) [17, 13]), (.mk (.mk (some 138) (some (137, true)) (.m (.pu (.mv (.t 18))))) [18]), (.mk (.mk (some 139) (some (137, true)) (.m (.pu (.mv (.t 20))))) [18]), (.mk (.mk (some 140) (some (137, true)) (.call 26 [(.t 138), (.t 139)])) [19, 20, 18, 18]), (.mk (.mk (some 141) none (.m (.pu (.pick (.t 137) (.t 140) (.c (.v (.bool false))))))) [18, 21]), (.mk (.mk (some 142) none (.m (.pu (.mv (.t 141))))) [22, 21]), (.mk (.mk (some 143) (some (142, true)) (.m (.pu (.mv (.t 22))))) [23]), (.mk (.mk (some 144) (some (142, true)) (.m (.pu (.mv (.t 25))))) [23]), (.mk (.mk (some 145) (some (142, true)) (.m (.pu (.bin false .eql (.t 143) (.t 144))))) [24, 25, 23]), (.mk (.mk (some 146) none (.m (.pu (.pick (.t 142) (.t 145) (.c (.v (.bool false))))))) [23, 26]), (.mk (.mk (some 147) none (.m (.pu (.mv (.t 146))))) [27, 23]), (.mk (.mk (some 148) (some (147, true)) (.m (.pu (.mv (.t 23))))) [28]), (.mk (.mk (some 149) (some (147, true)) (.m (.pu (.mv (.t 26))))) [28]), (.mk (.mk (some 150) (some (147, true)) (.m (.pu (.bin true .eql (.t 148) (.t 149))))) [29, 30, 28]), (.mk (.mk (some 151) none (.m (.pu (.pick (.t 147) (.t 150) (.c (.v (.bool false))))))) [28, 31]), (.mk (.mk (some 152) none (.m (.pu (.mv (.t 151))))) [32, 28]), (.mk (.mk (some 153) (some (152, true)) (.m (.pu (.mv (.t 24))))) [33]), (.mk (.mk (some 154) (some (152, true)) (.m (.pu (.mv (.t 27))))) [33]), (.mk (.mk (some 155) (some (152, true)) (.m (.pu (.bin false .eql (.t 153) (.t 154))))) [34, 35, 33]), (.mk (.mk (some 156) none (.m (.pu (.pick (.t 152) (.t 155) (.c (.v (.bool false))))))) [33, 36]), (.mk (.mk (some 157) none (.m (.pu (.mv (.t 156))))) [37, 33]), (.mk (.mk (some 158) (some (157, true)) (.m (.ld true 2 (.t 8)))) [38]), (.mk (.mk (some 159) (some (157, true)) (.m (.pu (.mv (.t 10))))) [38]), (.mk (.mk (some 160) (some (157, true)) (.call 13 [(.t 158), (.t 159)])) [39, 40, 38, 38]), (.mk (.mk (some 161) (some (157, true)) (.m (.ld true 2 (.t 8)))) [38]), (.mk (.mk (some 162) (some (157, true)) (.m (.pu (.mv (.t 10))))) [38]), (.mk (.mk (some 163) (some (157, true)) (.call 27 [(.t 161), (.t 162)])) [42, 43, 41, 38]), (.mk (.mk (some 164) (some (157, true)) (.m (.pu (.bin false .eql (.t 160) (.t 163))))) [41, 44, 38]), (.mk (.mk (some 165) none (.m (.pu (.pick (.t 157) (.t 164) (.c (.v (.bool false))))))) [38, 45]), (.mk (.mk (some 166) none (.m (.pu (.mv (.t 165))))) [46, 44]), (.mk (.mk (some 167) (some (166, true)) (.call 12 [])) [47, 47]), (.mk (.mk (some 168) none (.m (.pu (.pick (.t 166) (.t 167) (.c (.v (.bool false))))))) [47, 48]), (.mk (.mk (some 6) none (.m (.pu (.mv (.t 168))))) [49, 48, 0, 1, 2, 3, 4, 5, 6, 7, 8, 9, 10, 11, 12, 13, 14, 15, 16, 17, 18, 19, 20, 21, 22, 23, 24, 25, 26, 27, 28, 29, 30, 31, 32, 33, 34, 35, 36, 37, 38, 39, 40, 41, 42, 43, 44, 45, 46, 47, 48, 49])]
/-- cipherplan/cipherplanlaw18.VerdictMade -/
def tc_law18_VerdictMade : TC := (.sq (.reg [(.mk (some 4) none (.m (.box (.t 1)))), (.mk (some 6) none (.m (.pu (.mv (.c (.v (.bool false)))))))]) (.sq (.sq (.reg [(.mk (some 28) none (.m (.pu (.mv (.t 0))))), (.mk (some 29) none (.call 14 [(.t 28)])), (.mk (some 30) none (.m (.pu (.nt (.t 29)))))]) (.cd (.t 30) (.sq (.reg [(.mk (some 31) none (.call 12 [])), (.mk (some 6) none (.m (.pu (.mv (.t 31)))))]) .rt) .sk)) (.sq (.reg [(.mk (some 32) none (.m (.pu (.mv (.t 0))))), (.mk (some 33) none (.call 15 [(.t 32)])), (.mk (some 7) none (.m (.pu (.mv (.t 33)))))]) (.sq (.reg [(.mk (some 34) none (.m (.pu (.mv (.t 7))))), (.mk (some 35) none (.call 16 [(.t 34)])), (.mk (some 36) none (.m (.pu (.mv (.t 7))))), (.mk (some 37) none (.call 17 [(.t 36)])), (.mk (some 8) none (.m (.new [(.v (.slice none 0 0)), (.v (.slice none 0 0))]))), (.mk (some 9) none (.m (.new [(.v (.int .i64 0)), (.v (.int .i64 0))]))), (.mk none none (.m (.st 2 (.t 8) (.t 35)))), (.mk none none (.m (.st 2 (.t 9) (.t 37))))]) (.sq (.reg [(.mk (some 38) none (.m (.pu (.mv (.t 7))))), (.mk (some 39) none (.call 18 [(.t 38), (.c (.v (.int .i64 4)))])), (.mk (some 40) none (.m (.pu (.bin false .add (.c (.v (.int .i64 1))) (.t 39))))), (.mk (some 41) none (.m (.pu (.mv (.t 7))))), (.mk (some 42) none (.m (.bs 3 1 8 [(.v (.int .i64 0)), (.v (.int .i64 0)), (.v (.int .i64 0)), (.v (.int .i64 0)), (.v (.int .i64 0)), (.v (.int .i64 0)), (.v (.int .i64 0)), (.v (.int .i64 0))] [(0, 1, (.c (.v (.int .i64 10)))), (1, 1, (.c (.v (.int .i64 9)))), (2, 1, (.c (.v (.int .i64 30)))), (3, 1, (.c (.v (.int .i64 100)))), (4, 1, (.c (.v (.int .i64 0)))), (5, 1, (.c (.v (.int .i64 7)))), (6, 1, (.c (.v (.int .i64 8)))), (7, 1, (.c (.v (.int .i64 40000))))]))), (.mk (some 43) none (.call 22 [(.t 41), (.t 42)])), (.mk (some 10) none (.m (.pu (.mv (.t 40))))), (.mk (some 11) none (.m (.pu (.mv (.t 43)))))]) (.sq (.sq (.reg [(.mk (some 44) none (.m (.pu (.mv (.t 7))))), (.mk (some 45) none (.call 18 [(.t 44), (.c (.v (.int .i64 12)))]))]) (.bk 0 (.sq (.reg [(.mk (some 47) none (.m (.pu (.bin false .eql (.t 45) (.c (.v (.int .i64 0))))))), (.mk (some 46) none (.m (.pu (.mv (.t 47)))))]) (.cd (.t 46) (.reg [(.mk (some 48) none (.m (.ld true 2 (.t 4)))), (.mk none none (.m (.st 2 (.t 9) (.t 48))))]) (.sq (.reg [(.mk (some 50) none (.m (.pu (.bin false .eql (.t 45) (.c (.v (.int .i64 1))))))), (.mk (some 49) none (.m (.pu (.mv (.t 50)))))]) (.cd (.t 49) (.reg [(.mk (some 51) none (.m (.pu (.mv (.t 2))))), (.mk (some 11) none (.m (.pu (.mv (.t 51)))))]) (.sq (.reg [(.mk (some 53) none (.m (.pu (.bin false .eql (.t 45) (.c (.v (.int .i64 2))))))), (.mk (some 52) none (.m (.pu (.mv (.t 53)))))]) (.cd (.t 52) (.reg [(.mk (some 54) none (.m (.pu (.mv (.t 7))))), (.mk (some 55) none (.m (.bs 3 1 3 [(.v (.int .i64 0)), (.v (.int .i64 0)), (.v (.int .i64 0))] [(0, 1, (.c (.v (.int .i64 0)))), (1, 1, (.c (.v (.int .i64 5)))), (2, 1, (.c (.v (.int .i64 (-1)))))]))), (.mk (some 56) none (.call 22 [(.t 54), (.t 55)])), (.mk (some 10) none (.m (.pu (.mv (.t 56)))))]) (.sq (.reg [(.mk (some 58) none (.m (.pu (.bin false .eql (.t 45) (.c (.v (.int .i64 3))))))), (.mk (some 57) none (.m (.pu (.mv (.t 58)))))]) (.cd (.t 57) (.dr dr_law18_VerdictMade_0 [(0, [8, 35, 69, 5035, 10035, 15035]), (1, [8, 35, 69, 5035, 10035, 15035]), (2, [33, 5033, 10033, 15033]), (3, []), (4, [33, 63, 5033, 5063, 10033, 10063, 15033, 15063]), (5, [33, 5033, 10033, 15033]), (6, []), (7, [33, 66, 5033, 5066, 10033, 10066, 15033, 15066]), (8, []), (9, []), (10, [8, 35, 69, 5035, 5069, 10035, 10069, 15035, 15069]), (11, [8, 35, 69, 5035, 10035, 15035]), (12, [8, 35, 69, 5035, 10035, 15035])] (.one 0 (.one 1 (.one 2 (.one 3 (.one 6 (.alt 4 (.of [5, 7, 8, 9, 10, 11, 12]) (.of [5, 4, 7, 8, 9, 10, 11, 12])))))))) .sk)))))))))) (.sq (.reg [(.mk (some 72) none (.m (.ld true 2 (.t 8)))), (.mk (some 73) none (.m (.ld true 2 (.t 9)))), (.mk (some 74) none (.m (.pu (.mv (.t 10))))), (.mk (some 75) none (.m (.pu (.mv (.t 11))))), (.mk (some 76) none (.call 21 [(.t 72), (.t 73), (.t 74), (.t 75)])), (.mk (some 71) none (.m (.pu (.mv (.t 76))))), (.mk (some 77) none (.m (.pu (.ext 0 (.t 71))))), (.mk (some 78) none (.m (.pu (.ext 1 (.t 71))))), (.mk (some 79) none (.m (.pu (.ext 2 (.t 71))))), (.mk (some 12) none (.m (.pu (.mv (.t 77))))), (.mk (some 13) none (.m (.pu (.mv (.t 78))))), (.mk (some 14) none (.m (.pu (.mv (.t 79)))))]) (.sq (.reg [(.mk (some 81) none (.m (.ld true 2 (.t 8)))), (.mk (some 82) none (.m (.ld true 2 (.t 9)))), (.mk (some 83) none (.m (.pu (.mv (.t 10))))), (.mk (some 84) none (.m (.pu (.mv (.t 11))))), (.mk (some 85) none (.call 23 [(.t 81), (.t 82), (.t 83), (.t 84)])), (.mk (some 80) none (.m (.pu (.mv (.t 85))))), (.mk (some 86) none (.m (.pu (.ext 0 (.t 80))))), (.mk (some 87) none (.m (.pu (.ext 1 (.t 80))))), (.mk (some 88) none (.m (.pu (.ext 2 (.t 80))))), (.mk (some 15) none (.m (.pu (.mv (.t 86))))), (.mk (some 16) none (.m (.pu (.mv (.t 87))))), (.mk (some 17) none (.m (.pu (.mv (.t 88)))))]) (.sq (.reg [(.mk (some 90) none (.m (.ld true 2 (.t 8)))), (.mk (some 91) none (.m (.ld true 2 (.t 9)))), (.mk (some 92) none (.m (.pu (.mv (.t 10))))), (.mk (some 93) none (.call 19 [(.t 90), (.t 91), (.t 92)])), (.mk (some 89) none (.m (.pu (.mv (.t 93))))), (.mk (some 94) none (.m (.pu (.ext 0 (.t 89))))), (.mk (some 95) none (.m (.pu (.ext 1 (.t 89))))), (.mk (some 18) none (.m (.pu (.mv (.t 94))))), (.mk (some 19) none (.m (.pu (.mv (.t 95)))))]) (.sq (.reg [(.mk (some 97) none (.m (.ld true 2 (.t 8)))), (.mk (some 98) none (.m (.ld true 2 (.t 9)))), (.mk (some 99) none (.m (.pu (.mv (.t 10))))), (.mk (some 100) none (.call 24 [(.t 97), (.t 98), (.t 99)])), (.mk (some 96) none (.m (.pu (.mv (.t 100))))), (.mk (some 101) none (.m (.pu (.ext 0 (.t 96))))), (.mk (some 102) none (.m (.pu (.ext 1 (.t 96))))), (.mk (some 20) none (.m (.pu (.mv (.t 101))))), (.mk (some 21) none (.m (.pu (.mv (.t 102)))))]) (.sq (.reg [(.mk (some 104) none (.m (.ld true 2 (.t 8)))), (.mk (some 105) none (.m (.ld true 2 (.t 9)))), (.mk (some 106) none (.m (.pu (.mv (.t 10))))), (.mk (some 107) none (.call 20 [(.t 104), (.t 105), (.t 106)])), (.mk (some 103) none (.m (.pu (.mv (.t 107))))), (.mk (some 108) none (.m (.pu (.ext 0 (.t 103))))), (.mk (some 109) none (.m (.pu (.ext 1 (.t 103))))), (.mk (some 110) none (.m (.pu (.ext 2 (.t 103))))), (.mk (some 22) none (.m (.pu (.mv (.t 108))))), (.mk (some 23) none (.m (.pu (.mv (.t 109))))), (.mk (some 24) none (.m (.pu (.mv (.t 110)))))]) (.sq (.reg [(.mk (some 112) none (.m (.ld true 2 (.t 8)))), (.mk (some 113) none (.m (.ld true 2 (.t 9)))), (.mk (some 114) none (.m (.pu (.mv (.t 10))))), (.mk (some 115) none (.call 25 [(.t 112), (.t 113), (.t 114)])), (.mk (some 111) none (.m (.pu (.mv (.t 115))))), (.mk (some 116) none (.m (.pu (.ext 0 (.t 111))))), (.mk (some 117) none (.m (.pu (.ext 1 (.t 111))))), (.mk (some 118) none (.m (.pu (.ext 2 (.t 111))))), (.mk (some 25) none (.m (.pu (.mv (.t 116))))), (.mk (some 26) none (.m (.pu (.mv (.t 117))))), (.mk (some 27) none (.m (.pu (.mv (.t 118)))))]) (.sq (.dr dr_law18_VerdictMade_1 [(0, []), (1, []), (2, []), (3, []), (4, []), (5, []), (6, []), (7, []), (8, []), (9, []), (10, []), (11, []), (12, []), (13, []), (14, []), (15, []), (16, []), (17, []), (18, []), (19, []), (20, []), (21, []), (22, []), (23, []), (24, []), (25, []), (26, []), (27, []), (28, []), (29, []), (30, []), (31, []), (32, []), (33, []), (34, []), (35, []), (36, []), (37, []), (38, []), (39, [8, 35, 69, 5035, 10035, 15035]), (40, []), (41, [8, 35, 69, 160, 5035, 5160, 10035, 10160, 15035, 15160]), (42, [8, 35, 69, 5035, 10035, 15035]), (43, []), (44, [8, 35, 69, 163, 5035, 5163, 10035, 10163, 15035, 15163]), (45, []), (46, []), (47, []), (48, []), (49, []), (50, [])] (.one 0 (.one 1 (.one 2 (.one 3 (.one 4 (.one 5 (.one 6 (.one 7 (.one 8 (.one 9 (.one 10 (.one 11 (.one 12 (.one 13 (.one 14 (.one 15 (.one 16 (.one 17 (.one 18 (.one 19 (.one 20 (.one 21 (.one 22 (.one 23 (.one 24 (.one 25 (.one 26 (.one 27 (.one 28 (.one 29 (.one 30 (.one 31 (.one 32 (.one 33 (.one 34 (.one 35 (.one 36 (.one 37 (.one 38 (.one 39 (.one 40 (.one 43 (.alt 41 (.of [42, 44, 45, 46, 47, 48, 49, 50]) (.of [42, 41, 44, 45, 46, 47, 48, 49, 50]))))))))))))))))))))))))))))))))))))))))))))) .rt)))))))))))))
def rv_law18_VerdictMade : List (RV × Option Ty) := [((.t 6), some .bool)]
def g_law18_VerdictMade : G := ⟨TYs, [], 169, EL [(12, sp_law18_awake), (13, sp_verdict_Keep), (14, sp_make_Light), (15, sp_make_Roll), (16, sp_make_Policy), (17, sp_make_Use), (18, sp_make_Dice_Next), (19, sp_verdict_Spans), (20, sp_verdict_Falls), (21, sp_verdict_Allowed), (22, sp_make_Dice_Of), (23, sp_ref18_Allowed), (24, sp_ref18_Spans), (25, sp_ref18_Falls), (26, sp_ref18_SameSpans), (27, sp_ref18_Keep)], keeps, (fun _ _ => none), IL [], RL []⟩
def r_law18_VerdictMade_2 (p0 : (List Int)) (p1 : Keep) (p2 : Int) : Option (V × List VO) :=
  br ((keepLen ((polV (roll p0)).1, (((polV (roll p0)).2).1, ())) (iadd .i64 1 (dval (useN (polN (roll p0))) 4))))
    (br ((ieq (keepF ((polV (roll p0)).1, (((polV (roll p0)).2).1, ())) (iadd .i64 1 (dval (useN (polN (roll p0))) 4))) (keepF ((polV (roll p0)).1, (((polV (roll p0)).2).1, ())) (iadd .i64 1 (dval (useN (polN (roll p0))) 4)))))
      (some (.t .bool awakeT, []))
      (some (.t .bool false, [])))
    (none)
def r_law18_VerdictMade_1 (p0 : (List Int)) (p1 : Keep) (p2 : Int) : Option (V × List VO) :=
  frk
    (r_law18_VerdictMade_2 p0 p1 p2)
    (r_law18_VerdictMade_2 p0 p1 p2)
def r_law18_VerdictMade_3 (p0 : (List Int)) (p1 : Keep) (p2 : Int) : Option (V × List VO) :=
  frk
    (some (.t .bool false, []))
    (some (.t .bool false, []))
def r_law18_VerdictMade_4 (p0 : (List Int)) (p1 : Keep) (p2 : Int) : Option (V × List VO) :=
  br ((ieq ((SpansF ((polV (roll p0)).1, (((polV (roll p0)).2).1, ())) (useV (polN (roll p0))) (iadd .i64 1 (dval (useN (polN (roll p0))) 4))).2) ((SpansF ((polV (roll p0)).1, (((polV (roll p0)).2).1, ())) (useV (polN (roll p0))) (iadd .i64 1 (dval (useN (polN (roll p0))) 4))).2)))
    (br ((sameOk0 ((SpansF ((polV (roll p0)).1, (((polV (roll p0)).2).1, ())) (useV (polN (roll p0))) (iadd .i64 1 (dval (useN (polN (roll p0))) 4))).1) ((SpansF ((polV (roll p0)).1, (((polV (roll p0)).2).1, ())) (useV (polN (roll p0))) (iadd .i64 1 (dval (useN (polN (roll p0))) 4))).1)))
      (br ((same ((SpansF ((polV (roll p0)).1, (((polV (roll p0)).2).1, ())) (useV (polN (roll p0))) (iadd .i64 1 (dval (useN (polN (roll p0))) 4))).1) ((SpansF ((polV (roll p0)).1, (((polV (roll p0)).2).1, ())) (useV (polN (roll p0))) (iadd .i64 1 (dval (useN (polN (roll p0))) 4))).1)))
        (br ((ieq ((FallsF ((polV (roll p0)).1, (((polV (roll p0)).2).1, ())) (useV (polN (roll p0))) (iadd .i64 1 (dval (useN (polN (roll p0))) 4))).1) ((FallsF ((polV (roll p0)).1, (((polV (roll p0)).2).1, ())) (useV (polN (roll p0))) (iadd .i64 1 (dval (useN (polN (roll p0))) 4))).1)))
          (br ((beqq (((FallsF ((polV (roll p0)).1, (((polV (roll p0)).2).1, ())) (useV (polN (roll p0))) (iadd .i64 1 (dval (useN (polN (roll p0))) 4))).2).1) (((FallsF ((polV (roll p0)).1, (((polV (roll p0)).2).1, ())) (useV (polN (roll p0))) (iadd .i64 1 (dval (useN (polN (roll p0))) 4))).2).1)))
            (br ((ieq (((FallsF ((polV (roll p0)).1, (((polV (roll p0)).2).1, ())) (useV (polN (roll p0))) (iadd .i64 1 (dval (useN (polN (roll p0))) 4))).2).2) (((FallsF ((polV (roll p0)).1, (((polV (roll p0)).2).1, ())) (useV (polN (roll p0))) (iadd .i64 1 (dval (useN (polN (roll p0))) 4))).2).2)))
              (r_law18_VerdictMade_1 p0 p1 p2)
              (r_law18_VerdictMade_3 p0 p1 p2))
            (r_law18_VerdictMade_3 p0 p1 p2))
          (r_law18_VerdictMade_3 p0 p1 p2))
        (r_law18_VerdictMade_3 p0 p1 p2))
      (none))
    (r_law18_VerdictMade_3 p0 p1 p2)
def r_law18_VerdictMade_5 (p0 : (List Int)) (p1 : Keep) (p2 : Int) : Option (V × List VO) :=
  br ((keepLen ((polV (roll p0)).1, (((polV (roll p0)).2).1, ())) (dof (dnext (dofN (dnext (useN (polN (roll p0))) 4) ([10, 9, 30, 100, 0, 7, 8, 40000])) 12) ([0, 5, (-1)]))))
    (br ((ieq (keepF ((polV (roll p0)).1, (((polV (roll p0)).2).1, ())) (dof (dnext (dofN (dnext (useN (polN (roll p0))) 4) ([10, 9, 30, 100, 0, 7, 8, 40000])) 12) ([0, 5, (-1)]))) (keepF ((polV (roll p0)).1, (((polV (roll p0)).2).1, ())) (dof (dnext (dofN (dnext (useN (polN (roll p0))) 4) ([10, 9, 30, 100, 0, 7, 8, 40000])) 12) ([0, 5, (-1)])))))
      (some (.t .bool awakeT, []))
      (some (.t .bool false, [])))
    (none)
def r_law18_VerdictMade_7 (p0 : (List Int)) (p1 : Keep) (p2 : Int) : Option (V × List VO) :=
  br ((keepLen ((((polV (roll p0)).1) ++ ([(false, ((dof (dnext (dofN (dnext (useN (polN (roll p0))) 4) ([10, 9, 30, 100, 0, 7, 8, 40000])) 12) ([(-1), 3])), (0, (0, (5, ((dof (dofN (dnext (dofN (dnext (useN (polN (roll p0))) 4) ([10, 9, 30, 100, 0, 7, 8, 40000])) 12) ([(-1), 3])) ([5, 9])), ()))))))])), (((polV (roll p0)).2).1, ())) (iadd .i64 1 (dval (useN (polN (roll p0))) 4))))
    (br ((ieq (keepF ((((polV (roll p0)).1) ++ ([(false, ((dof (dnext (dofN (dnext (useN (polN (roll p0))) 4) ([10, 9, 30, 100, 0, 7, 8, 40000])) 12) ([(-1), 3])), (0, (0, (5, ((dof (dofN (dnext (dofN (dnext (useN (polN (roll p0))) 4) ([10, 9, 30, 100, 0, 7, 8, 40000])) 12) ([(-1), 3])) ([5, 9])), ()))))))])), (((polV (roll p0)).2).1, ())) (iadd .i64 1 (dval (useN (polN (roll p0))) 4))) (keepF ((((polV (roll p0)).1) ++ ([(false, ((dof (dnext (dofN (dnext (useN (polN (roll p0))) 4) ([10, 9, 30, 100, 0, 7, 8, 40000])) 12) ([(-1), 3])), (0, (0, (5, ((dof (dofN (dnext (dofN (dnext (useN (polN (roll p0))) 4) ([10, 9, 30, 100, 0, 7, 8, 40000])) 12) ([(-1), 3])) ([5, 9])), ()))))))])), (((polV (roll p0)).2).1, ())) (iadd .i64 1 (dval (useN (polN (roll p0))) 4)))))
      (some (.t .bool awakeT, []))
      (some (.t .bool false, [])))
    (none)
def r_law18_VerdictMade_6 (p0 : (List Int)) (p1 : Keep) (p2 : Int) : Option (V × List VO) :=
  br ((ofOk (dnext (dofN (dnext (useN (polN (roll p0))) 4) ([10, 9, 30, 100, 0, 7, 8, 40000])) 12) ([(-1), 3])))
    (br ((ofOk (dofN (dnext (dofN (dnext (useN (polN (roll p0))) 4) ([10, 9, 30, 100, 0, 7, 8, 40000])) 12) ([(-1), 3])) ([5, 9])))
      (br (cApp ((polV (roll p0)).1) ([(false, ((dof (dnext (dofN (dnext (useN (polN (roll p0))) 4) ([10, 9, 30, 100, 0, 7, 8, 40000])) 12) ([(-1), 3])), (0, (0, (5, ((dof (dofN (dnext (dofN (dnext (useN (polN (roll p0))) 4) ([10, 9, 30, 100, 0, 7, 8, 40000])) 12) ([(-1), 3])) ([5, 9])), ()))))))]) 48)
        (br ((polLen4 ((((polV (roll p0)).1) ++ ([(false, ((dof (dnext (dofN (dnext (useN (polN (roll p0))) 4) ([10, 9, 30, 100, 0, 7, 8, 40000])) 12) ([(-1), 3])), (0, (0, (5, ((dof (dofN (dnext (dofN (dnext (useN (polN (roll p0))) 4) ([10, 9, 30, 100, 0, 7, 8, 40000])) 12) ([(-1), 3])) ([5, 9])), ()))))))])), (((polV (roll p0)).2).1, ())) (useV (polN (roll p0))) (iadd .i64 1 (dval (useN (polN (roll p0))) 4)) (dof (dnext (useN (polN (roll p0))) 4) ([10, 9, 30, 100, 0, 7, 8, 40000]))))
          (br ((polLen4 ((((polV (roll p0)).1) ++ ([(false, ((dof (dnext (dofN (dnext (useN (polN (roll p0))) 4) ([10, 9, 30, 100, 0, 7, 8, 40000])) 12) ([(-1), 3])), (0, (0, (5, ((dof (dofN (dnext (dofN (dnext (useN (polN (roll p0))) 4) ([10, 9, 30, 100, 0, 7, 8, 40000])) 12) ([(-1), 3])) ([5, 9])), ()))))))])), (((polV (roll p0)).2).1, ())) (useV (polN (roll p0))) (iadd .i64 1 (dval (useN (polN (roll p0))) 4)) (dof (dnext (useN (polN (roll p0))) 4) ([10, 9, 30, 100, 0, 7, 8, 40000]))))
            (br ((polLen3 ((((polV (roll p0)).1) ++ ([(false, ((dof (dnext (dofN (dnext (useN (polN (roll p0))) 4) ([10, 9, 30, 100, 0, 7, 8, 40000])) 12) ([(-1), 3])), (0, (0, (5, ((dof (dofN (dnext (dofN (dnext (useN (polN (roll p0))) 4) ([10, 9, 30, 100, 0, 7, 8, 40000])) 12) ([(-1), 3])) ([5, 9])), ()))))))])), (((polV (roll p0)).2).1, ())) (useV (polN (roll p0))) (iadd .i64 1 (dval (useN (polN (roll p0))) 4))))
              (br ((polLen3 ((((polV (roll p0)).1) ++ ([(false, ((dof (dnext (dofN (dnext (useN (polN (roll p0))) 4) ([10, 9, 30, 100, 0, 7, 8, 40000])) 12) ([(-1), 3])), (0, (0, (5, ((dof (dofN (dnext (dofN (dnext (useN (polN (roll p0))) 4) ([10, 9, 30, 100, 0, 7, 8, 40000])) 12) ([(-1), 3])) ([5, 9])), ()))))))])), (((polV (roll p0)).2).1, ())) (useV (polN (roll p0))) (iadd .i64 1 (dval (useN (polN (roll p0))) 4))))
                (br ((polLen3 ((((polV (roll p0)).1) ++ ([(false, ((dof (dnext (dofN (dnext (useN (polN (roll p0))) 4) ([10, 9, 30, 100, 0, 7, 8, 40000])) 12) ([(-1), 3])), (0, (0, (5, ((dof (dofN (dnext (dofN (dnext (useN (polN (roll p0))) 4) ([10, 9, 30, 100, 0, 7, 8, 40000])) 12) ([(-1), 3])) ([5, 9])), ()))))))])), (((polV (roll p0)).2).1, ())) (useV (polN (roll p0))) (iadd .i64 1 (dval (useN (polN (roll p0))) 4))))
                  (br ((polLen3 ((((polV (roll p0)).1) ++ ([(false, ((dof (dnext (dofN (dnext (useN (polN (roll p0))) 4) ([10, 9, 30, 100, 0, 7, 8, 40000])) 12) ([(-1), 3])), (0, (0, (5, ((dof (dofN (dnext (dofN (dnext (useN (polN (roll p0))) 4) ([10, 9, 30, 100, 0, 7, 8, 40000])) 12) ([(-1), 3])) ([5, 9])), ()))))))])), (((polV (roll p0)).2).1, ())) (useV (polN (roll p0))) (iadd .i64 1 (dval (useN (polN (roll p0))) 4))))
                    (br ((beqq ((AllowedF ((((polV (roll p0)).1) ++ ([(false, ((dof (dnext (dofN (dnext (useN (polN (roll p0))) 4) ([10, 9, 30, 100, 0, 7, 8, 40000])) 12) ([(-1), 3])), (0, (0, (5, ((dof (dofN (dnext (dofN (dnext (useN (polN (roll p0))) 4) ([10, 9, 30, 100, 0, 7, 8, 40000])) 12) ([(-1), 3])) ([5, 9])), ()))))))])), (((polV (roll p0)).2).1, ())) (useV (polN (roll p0))) (iadd .i64 1 (dval (useN (polN (roll p0))) 4)) (dof (dnext (useN (polN (roll p0))) 4) ([10, 9, 30, 100, 0, 7, 8, 40000]))).1) ((AllowedF ((((polV (roll p0)).1) ++ ([(false, ((dof (dnext (dofN (dnext (useN (polN (roll p0))) 4) ([10, 9, 30, 100, 0, 7, 8, 40000])) 12) ([(-1), 3])), (0, (0, (5, ((dof (dofN (dnext (dofN (dnext (useN (polN (roll p0))) 4) ([10, 9, 30, 100, 0, 7, 8, 40000])) 12) ([(-1), 3])) ([5, 9])), ()))))))])), (((polV (roll p0)).2).1, ())) (useV (polN (roll p0))) (iadd .i64 1 (dval (useN (polN (roll p0))) 4)) (dof (dnext (useN (polN (roll p0))) 4) ([10, 9, 30, 100, 0, 7, 8, 40000]))).1)))
                      (br ((ieq (((AllowedF ((((polV (roll p0)).1) ++ ([(false, ((dof (dnext (dofN (dnext (useN (polN (roll p0))) 4) ([10, 9, 30, 100, 0, 7, 8, 40000])) 12) ([(-1), 3])), (0, (0, (5, ((dof (dofN (dnext (dofN (dnext (useN (polN (roll p0))) 4) ([10, 9, 30, 100, 0, 7, 8, 40000])) 12) ([(-1), 3])) ([5, 9])), ()))))))])), (((polV (roll p0)).2).1, ())) (useV (polN (roll p0))) (iadd .i64 1 (dval (useN (polN (roll p0))) 4)) (dof (dnext (useN (polN (roll p0))) 4) ([10, 9, 30, 100, 0, 7, 8, 40000]))).2).1) (((AllowedF ((((polV (roll p0)).1) ++ ([(false, ((dof (dnext (dofN (dnext (useN (polN (roll p0))) 4) ([10, 9, 30, 100, 0, 7, 8, 40000])) 12) ([(-1), 3])), (0, (0, (5, ((dof (dofN (dnext (dofN (dnext (useN (polN (roll p0))) 4) ([10, 9, 30, 100, 0, 7, 8, 40000])) 12) ([(-1), 3])) ([5, 9])), ()))))))])), (((polV (roll p0)).2).1, ())) (useV (polN (roll p0))) (iadd .i64 1 (dval (useN (polN (roll p0))) 4)) (dof (dnext (useN (polN (roll p0))) 4) ([10, 9, 30, 100, 0, 7, 8, 40000]))).2).1)))
                        (br ((ieq (((AllowedF ((((polV (roll p0)).1) ++ ([(false, ((dof (dnext (dofN (dnext (useN (polN (roll p0))) 4) ([10, 9, 30, 100, 0, 7, 8, 40000])) 12) ([(-1), 3])), (0, (0, (5, ((dof (dofN (dnext (dofN (dnext (useN (polN (roll p0))) 4) ([10, 9, 30, 100, 0, 7, 8, 40000])) 12) ([(-1), 3])) ([5, 9])), ()))))))])), (((polV (roll p0)).2).1, ())) (useV (polN (roll p0))) (iadd .i64 1 (dval (useN (polN (roll p0))) 4)) (dof (dnext (useN (polN (roll p0))) 4) ([10, 9, 30, 100, 0, 7, 8, 40000]))).2).2) (((AllowedF ((((polV (roll p0)).1) ++ ([(false, ((dof (dnext (dofN (dnext (useN (polN (roll p0))) 4) ([10, 9, 30, 100, 0, 7, 8, 40000])) 12) ([(-1), 3])), (0, (0, (5, ((dof (dofN (dnext (dofN (dnext (useN (polN (roll p0))) 4) ([10, 9, 30, 100, 0, 7, 8, 40000])) 12) ([(-1), 3])) ([5, 9])), ()))))))])), (((polV (roll p0)).2).1, ())) (useV (polN (roll p0))) (iadd .i64 1 (dval (useN (polN (roll p0))) 4)) (dof (dnext (useN (polN (roll p0))) 4) ([10, 9, 30, 100, 0, 7, 8, 40000]))).2).2)))
                          (br ((ieq ((SpansF ((((polV (roll p0)).1) ++ ([(false, ((dof (dnext (dofN (dnext (useN (polN (roll p0))) 4) ([10, 9, 30, 100, 0, 7, 8, 40000])) 12) ([(-1), 3])), (0, (0, (5, ((dof (dofN (dnext (dofN (dnext (useN (polN (roll p0))) 4) ([10, 9, 30, 100, 0, 7, 8, 40000])) 12) ([(-1), 3])) ([5, 9])), ()))))))])), (((polV (roll p0)).2).1, ())) (useV (polN (roll p0))) (iadd .i64 1 (dval (useN (polN (roll p0))) 4))).2) ((SpansF ((((polV (roll p0)).1) ++ ([(false, ((dof (dnext (dofN (dnext (useN (polN (roll p0))) 4) ([10, 9, 30, 100, 0, 7, 8, 40000])) 12) ([(-1), 3])), (0, (0, (5, ((dof (dofN (dnext (dofN (dnext (useN (polN (roll p0))) 4) ([10, 9, 30, 100, 0, 7, 8, 40000])) 12) ([(-1), 3])) ([5, 9])), ()))))))])), (((polV (roll p0)).2).1, ())) (useV (polN (roll p0))) (iadd .i64 1 (dval (useN (polN (roll p0))) 4))).2)))
                            (br ((sameOk0 ((SpansF ((((polV (roll p0)).1) ++ ([(false, ((dof (dnext (dofN (dnext (useN (polN (roll p0))) 4) ([10, 9, 30, 100, 0, 7, 8, 40000])) 12) ([(-1), 3])), (0, (0, (5, ((dof (dofN (dnext (dofN (dnext (useN (polN (roll p0))) 4) ([10, 9, 30, 100, 0, 7, 8, 40000])) 12) ([(-1), 3])) ([5, 9])), ()))))))])), (((polV (roll p0)).2).1, ())) (useV (polN (roll p0))) (iadd .i64 1 (dval (useN (polN (roll p0))) 4))).1) ((SpansF ((((polV (roll p0)).1) ++ ([(false, ((dof (dnext (dofN (dnext (useN (polN (roll p0))) 4) ([10, 9, 30, 100, 0, 7, 8, 40000])) 12) ([(-1), 3])), (0, (0, (5, ((dof (dofN (dnext (dofN (dnext (useN (polN (roll p0))) 4) ([10, 9, 30, 100, 0, 7, 8, 40000])) 12) ([(-1), 3])) ([5, 9])), ()))))))])), (((polV (roll p0)).2).1, ())) (useV (polN (roll p0))) (iadd .i64 1 (dval (useN (polN (roll p0))) 4))).1)))
                              (br ((same ((SpansF ((((polV (roll p0)).1) ++ ([(false, ((dof (dnext (dofN (dnext (useN (polN (roll p0))) 4) ([10, 9, 30, 100, 0, 7, 8, 40000])) 12) ([(-1), 3])), (0, (0, (5, ((dof (dofN (dnext (dofN (dnext (useN (polN (roll p0))) 4) ([10, 9, 30, 100, 0, 7, 8, 40000])) 12) ([(-1), 3])) ([5, 9])), ()))))))])), (((polV (roll p0)).2).1, ())) (useV (polN (roll p0))) (iadd .i64 1 (dval (useN (polN (roll p0))) 4))).1) ((SpansF ((((polV (roll p0)).1) ++ ([(false, ((dof (dnext (dofN (dnext (useN (polN (roll p0))) 4) ([10, 9, 30, 100, 0, 7, 8, 40000])) 12) ([(-1), 3])), (0, (0, (5, ((dof (dofN (dnext (dofN (dnext (useN (polN (roll p0))) 4) ([10, 9, 30, 100, 0, 7, 8, 40000])) 12) ([(-1), 3])) ([5, 9])), ()))))))])), (((polV (roll p0)).2).1, ())) (useV (polN (roll p0))) (iadd .i64 1 (dval (useN (polN (roll p0))) 4))).1)))
                                (br ((ieq ((FallsF ((((polV (roll p0)).1) ++ ([(false, ((dof (dnext (dofN (dnext (useN (polN (roll p0))) 4) ([10, 9, 30, 100, 0, 7, 8, 40000])) 12) ([(-1), 3])), (0, (0, (5, ((dof (dofN (dnext (dofN (dnext (useN (polN (roll p0))) 4) ([10, 9, 30, 100, 0, 7, 8, 40000])) 12) ([(-1), 3])) ([5, 9])), ()))))))])), (((polV (roll p0)).2).1, ())) (useV (polN (roll p0))) (iadd .i64 1 (dval (useN (polN (roll p0))) 4))).1) ((FallsF ((((polV (roll p0)).1) ++ ([(false, ((dof (dnext (dofN (dnext (useN (polN (roll p0))) 4) ([10, 9, 30, 100, 0, 7, 8, 40000])) 12) ([(-1), 3])), (0, (0, (5, ((dof (dofN (dnext (dofN (dnext (useN (polN (roll p0))) 4) ([10, 9, 30, 100, 0, 7, 8, 40000])) 12) ([(-1), 3])) ([5, 9])), ()))))))])), (((polV (roll p0)).2).1, ())) (useV (polN (roll p0))) (iadd .i64 1 (dval (useN (polN (roll p0))) 4))).1)))
                                  (br ((beqq (((FallsF ((((polV (roll p0)).1) ++ ([(false, ((dof (dnext (dofN (dnext (useN (polN (roll p0))) 4) ([10, 9, 30, 100, 0, 7, 8, 40000])) 12) ([(-1), 3])), (0, (0, (5, ((dof (dofN (dnext (dofN (dnext (useN (polN (roll p0))) 4) ([10, 9, 30, 100, 0, 7, 8, 40000])) 12) ([(-1), 3])) ([5, 9])), ()))))))])), (((polV (roll p0)).2).1, ())) (useV (polN (roll p0))) (iadd .i64 1 (dval (useN (polN (roll p0))) 4))).2).1) (((FallsF ((((polV (roll p0)).1) ++ ([(false, ((dof (dnext (dofN (dnext (useN (polN (roll p0))) 4) ([10, 9, 30, 100, 0, 7, 8, 40000])) 12) ([(-1), 3])), (0, (0, (5, ((dof (dofN (dnext (dofN (dnext (useN (polN (roll p0))) 4) ([10, 9, 30, 100, 0, 7, 8, 40000])) 12) ([(-1), 3])) ([5, 9])), ()))))))])), (((polV (roll p0)).2).1, ())) (useV (polN (roll p0))) (iadd .i64 1 (dval (useN (polN (roll p0))) 4))).2).1)))
                                    (br ((ieq (((FallsF ((((polV (roll p0)).1) ++ ([(false, ((dof (dnext (dofN (dnext (useN (polN (roll p0))) 4) ([10, 9, 30, 100, 0, 7, 8, 40000])) 12) ([(-1), 3])), (0, (0, (5, ((dof (dofN (dnext (dofN (dnext (useN (polN (roll p0))) 4) ([10, 9, 30, 100, 0, 7, 8, 40000])) 12) ([(-1), 3])) ([5, 9])), ()))))))])), (((polV (roll p0)).2).1, ())) (useV (polN (roll p0))) (iadd .i64 1 (dval (useN (polN (roll p0))) 4))).2).2) (((FallsF ((((polV (roll p0)).1) ++ ([(false, ((dof (dnext (dofN (dnext (useN (polN (roll p0))) 4) ([10, 9, 30, 100, 0, 7, 8, 40000])) 12) ([(-1), 3])), (0, (0, (5, ((dof (dofN (dnext (dofN (dnext (useN (polN (roll p0))) 4) ([10, 9, 30, 100, 0, 7, 8, 40000])) 12) ([(-1), 3])) ([5, 9])), ()))))))])), (((polV (roll p0)).2).1, ())) (useV (polN (roll p0))) (iadd .i64 1 (dval (useN (polN (roll p0))) 4))).2).2)))
                                      (frk
                                        (r_law18_VerdictMade_7 p0 p1 p2)
                                        (r_law18_VerdictMade_7 p0 p1 p2))
                                      (r_law18_VerdictMade_3 p0 p1 p2))
                                    (r_law18_VerdictMade_3 p0 p1 p2))
                                  (r_law18_VerdictMade_3 p0 p1 p2))
                                (r_law18_VerdictMade_3 p0 p1 p2))
                              (none))
                            (r_law18_VerdictMade_3 p0 p1 p2))
                          (r_law18_VerdictMade_3 p0 p1 p2))
                        (r_law18_VerdictMade_3 p0 p1 p2))
                      (r_law18_VerdictMade_3 p0 p1 p2))
                    (none))
                  (none))
                (none))
              (none))
            (none))
          (none))
        (none))
      (none))
    (none)
def r_law18_VerdictMade (p0 : (List Int)) (p1 : Keep) (p2 : Int) : Option (V × List VO) :=
  br ((!(light p0)))
    (some (.t .bool awakeT, []))
    (br ((dOk (roll p0)))
      (br ((dOk (polN (roll p0))))
        (br ((nextOk (useN (polN (roll p0))) 4))
          (br ((ofOk (dnext (useN (polN (roll p0))) 4) ([10, 9, 30, 100, 0, 7, 8, 40000])))
            (br ((nextOk (dofN (dnext (useN (polN (roll p0))) 4) ([10, 9, 30, 100, 0, 7, 8, 40000])) 12))
              (br ((ieq (dval (dofN (dnext (useN (polN (roll p0))) 4) ([10, 9, 30, 100, 0, 7, 8, 40000])) 12) 0))
                (br ((polLen4 ((polV (roll p0)).1, (((polV (roll p0)).2).1, ())) p1 (iadd .i64 1 (dval (useN (polN (roll p0))) 4)) (dof (dnext (useN (polN (roll p0))) 4) ([10, 9, 30, 100, 0, 7, 8, 40000]))))
                  (br ((polLen4 ((polV (roll p0)).1, (((polV (roll p0)).2).1, ())) p1 (iadd .i64 1 (dval (useN (polN (roll p0))) 4)) (dof (dnext (useN (polN (roll p0))) 4) ([10, 9, 30, 100, 0, 7, 8, 40000]))))
                    (br ((polLen3 ((polV (roll p0)).1, (((polV (roll p0)).2).1, ())) p1 (iadd .i64 1 (dval (useN (polN (roll p0))) 4))))
                      (br ((polLen3 ((polV (roll p0)).1, (((polV (roll p0)).2).1, ())) p1 (iadd .i64 1 (dval (useN (polN (roll p0))) 4))))
                        (br ((polLen3 ((polV (roll p0)).1, (((polV (roll p0)).2).1, ())) p1 (iadd .i64 1 (dval (useN (polN (roll p0))) 4))))
                          (br ((polLen3 ((polV (roll p0)).1, (((polV (roll p0)).2).1, ())) p1 (iadd .i64 1 (dval (useN (polN (roll p0))) 4))))
                            (br ((beqq ((AllowedF ((polV (roll p0)).1, (((polV (roll p0)).2).1, ())) p1 (iadd .i64 1 (dval (useN (polN (roll p0))) 4)) (dof (dnext (useN (polN (roll p0))) 4) ([10, 9, 30, 100, 0, 7, 8, 40000]))).1) ((AllowedF ((polV (roll p0)).1, (((polV (roll p0)).2).1, ())) p1 (iadd .i64 1 (dval (useN (polN (roll p0))) 4)) (dof (dnext (useN (polN (roll p0))) 4) ([10, 9, 30, 100, 0, 7, 8, 40000]))).1)))
                              (br ((ieq (((AllowedF ((polV (roll p0)).1, (((polV (roll p0)).2).1, ())) p1 (iadd .i64 1 (dval (useN (polN (roll p0))) 4)) (dof (dnext (useN (polN (roll p0))) 4) ([10, 9, 30, 100, 0, 7, 8, 40000]))).2).1) (((AllowedF ((polV (roll p0)).1, (((polV (roll p0)).2).1, ())) p1 (iadd .i64 1 (dval (useN (polN (roll p0))) 4)) (dof (dnext (useN (polN (roll p0))) 4) ([10, 9, 30, 100, 0, 7, 8, 40000]))).2).1)))
                                (br ((ieq (((AllowedF ((polV (roll p0)).1, (((polV (roll p0)).2).1, ())) p1 (iadd .i64 1 (dval (useN (polN (roll p0))) 4)) (dof (dnext (useN (polN (roll p0))) 4) ([10, 9, 30, 100, 0, 7, 8, 40000]))).2).2) (((AllowedF ((polV (roll p0)).1, (((polV (roll p0)).2).1, ())) p1 (iadd .i64 1 (dval (useN (polN (roll p0))) 4)) (dof (dnext (useN (polN (roll p0))) 4) ([10, 9, 30, 100, 0, 7, 8, 40000]))).2).2)))
                                  (br ((ieq ((SpansF ((polV (roll p0)).1, (((polV (roll p0)).2).1, ())) p1 (iadd .i64 1 (dval (useN (polN (roll p0))) 4))).2) ((SpansF ((polV (roll p0)).1, (((polV (roll p0)).2).1, ())) p1 (iadd .i64 1 (dval (useN (polN (roll p0))) 4))).2)))
                                    (br ((sameOk0 ((SpansF ((polV (roll p0)).1, (((polV (roll p0)).2).1, ())) p1 (iadd .i64 1 (dval (useN (polN (roll p0))) 4))).1) ((SpansF ((polV (roll p0)).1, (((polV (roll p0)).2).1, ())) p1 (iadd .i64 1 (dval (useN (polN (roll p0))) 4))).1)))
                                      (br ((same ((SpansF ((polV (roll p0)).1, (((polV (roll p0)).2).1, ())) p1 (iadd .i64 1 (dval (useN (polN (roll p0))) 4))).1) ((SpansF ((polV (roll p0)).1, (((polV (roll p0)).2).1, ())) p1 (iadd .i64 1 (dval (useN (polN (roll p0))) 4))).1)))
                                        (br ((ieq ((FallsF ((polV (roll p0)).1, (((polV (roll p0)).2).1, ())) p1 (iadd .i64 1 (dval (useN (polN (roll p0))) 4))).1) ((FallsF ((polV (roll p0)).1, (((polV (roll p0)).2).1, ())) p1 (iadd .i64 1 (dval (useN (polN (roll p0))) 4))).1)))
                                          (br ((beqq (((FallsF ((polV (roll p0)).1, (((polV (roll p0)).2).1, ())) p1 (iadd .i64 1 (dval (useN (polN (roll p0))) 4))).2).1) (((FallsF ((polV (roll p0)).1, (((polV (roll p0)).2).1, ())) p1 (iadd .i64 1 (dval (useN (polN (roll p0))) 4))).2).1)))
                                            (br ((ieq (((FallsF ((polV (roll p0)).1, (((polV (roll p0)).2).1, ())) p1 (iadd .i64 1 (dval (useN (polN (roll p0))) 4))).2).2) (((FallsF ((polV (roll p0)).1, (((polV (roll p0)).2).1, ())) p1 (iadd .i64 1 (dval (useN (polN (roll p0))) 4))).2).2)))
                                              (r_law18_VerdictMade_1 p0 p1 p2)
                                              (r_law18_VerdictMade_3 p0 p1 p2))
                                            (r_law18_VerdictMade_3 p0 p1 p2))
                                          (r_law18_VerdictMade_3 p0 p1 p2))
                                        (r_law18_VerdictMade_3 p0 p1 p2))
                                      (none))
                                    (r_law18_VerdictMade_3 p0 p1 p2))
                                  (r_law18_VerdictMade_3 p0 p1 p2))
                                (r_law18_VerdictMade_3 p0 p1 p2))
                              (r_law18_VerdictMade_3 p0 p1 p2))
                            (none))
                          (none))
                        (none))
                      (none))
                    (none))
                  (none))
                (br ((ieq (dval (dofN (dnext (useN (polN (roll p0))) 4) ([10, 9, 30, 100, 0, 7, 8, 40000])) 12) 1))
                  (br ((polLen4 ((polV (roll p0)).1, (((polV (roll p0)).2).1, ())) (useV (polN (roll p0))) (iadd .i64 1 (dval (useN (polN (roll p0))) 4)) p2))
                    (br ((polLen4 ((polV (roll p0)).1, (((polV (roll p0)).2).1, ())) (useV (polN (roll p0))) (iadd .i64 1 (dval (useN (polN (roll p0))) 4)) p2))
                      (br ((polLen3 ((polV (roll p0)).1, (((polV (roll p0)).2).1, ())) (useV (polN (roll p0))) (iadd .i64 1 (dval (useN (polN (roll p0))) 4))))
                        (br ((polLen3 ((polV (roll p0)).1, (((polV (roll p0)).2).1, ())) (useV (polN (roll p0))) (iadd .i64 1 (dval (useN (polN (roll p0))) 4))))
                          (br ((polLen3 ((polV (roll p0)).1, (((polV (roll p0)).2).1, ())) (useV (polN (roll p0))) (iadd .i64 1 (dval (useN (polN (roll p0))) 4))))
                            (br ((polLen3 ((polV (roll p0)).1, (((polV (roll p0)).2).1, ())) (useV (polN (roll p0))) (iadd .i64 1 (dval (useN (polN (roll p0))) 4))))
                              (br ((beqq ((AllowedF ((polV (roll p0)).1, (((polV (roll p0)).2).1, ())) (useV (polN (roll p0))) (iadd .i64 1 (dval (useN (polN (roll p0))) 4)) p2).1) ((AllowedF ((polV (roll p0)).1, (((polV (roll p0)).2).1, ())) (useV (polN (roll p0))) (iadd .i64 1 (dval (useN (polN (roll p0))) 4)) p2).1)))
                                (br ((ieq (((AllowedF ((polV (roll p0)).1, (((polV (roll p0)).2).1, ())) (useV (polN (roll p0))) (iadd .i64 1 (dval (useN (polN (roll p0))) 4)) p2).2).1) (((AllowedF ((polV (roll p0)).1, (((polV (roll p0)).2).1, ())) (useV (polN (roll p0))) (iadd .i64 1 (dval (useN (polN (roll p0))) 4)) p2).2).1)))
                                  (br ((ieq (((AllowedF ((polV (roll p0)).1, (((polV (roll p0)).2).1, ())) (useV (polN (roll p0))) (iadd .i64 1 (dval (useN (polN (roll p0))) 4)) p2).2).2) (((AllowedF ((polV (roll p0)).1, (((polV (roll p0)).2).1, ())) (useV (polN (roll p0))) (iadd .i64 1 (dval (useN (polN (roll p0))) 4)) p2).2).2)))
                                    (r_law18_VerdictMade_4 p0 p1 p2)
                                    (r_law18_VerdictMade_3 p0 p1 p2))
                                  (r_law18_VerdictMade_3 p0 p1 p2))
                                (r_law18_VerdictMade_3 p0 p1 p2))
                              (none))
                            (none))
                          (none))
                        (none))
                      (none))
                    (none))
                  (br ((ieq (dval (dofN (dnext (useN (polN (roll p0))) 4) ([10, 9, 30, 100, 0, 7, 8, 40000])) 12) 2))
                    (br ((ofOk (dnext (dofN (dnext (useN (polN (roll p0))) 4) ([10, 9, 30, 100, 0, 7, 8, 40000])) 12) ([0, 5, (-1)])))
                      (br ((polLen4 ((polV (roll p0)).1, (((polV (roll p0)).2).1, ())) (useV (polN (roll p0))) (dof (dnext (dofN (dnext (useN (polN (roll p0))) 4) ([10, 9, 30, 100, 0, 7, 8, 40000])) 12) ([0, 5, (-1)])) (dof (dnext (useN (polN (roll p0))) 4) ([10, 9, 30, 100, 0, 7, 8, 40000]))))
                        (br ((polLen4 ((polV (roll p0)).1, (((polV (roll p0)).2).1, ())) (useV (polN (roll p0))) (dof (dnext (dofN (dnext (useN (polN (roll p0))) 4) ([10, 9, 30, 100, 0, 7, 8, 40000])) 12) ([0, 5, (-1)])) (dof (dnext (useN (polN (roll p0))) 4) ([10, 9, 30, 100, 0, 7, 8, 40000]))))
                          (br ((polLen3 ((polV (roll p0)).1, (((polV (roll p0)).2).1, ())) (useV (polN (roll p0))) (dof (dnext (dofN (dnext (useN (polN (roll p0))) 4) ([10, 9, 30, 100, 0, 7, 8, 40000])) 12) ([0, 5, (-1)]))))
                            (br ((polLen3 ((polV (roll p0)).1, (((polV (roll p0)).2).1, ())) (useV (polN (roll p0))) (dof (dnext (dofN (dnext (useN (polN (roll p0))) 4) ([10, 9, 30, 100, 0, 7, 8, 40000])) 12) ([0, 5, (-1)]))))
                              (br ((polLen3 ((polV (roll p0)).1, (((polV (roll p0)).2).1, ())) (useV (polN (roll p0))) (dof (dnext (dofN (dnext (useN (polN (roll p0))) 4) ([10, 9, 30, 100, 0, 7, 8, 40000])) 12) ([0, 5, (-1)]))))
                                (br ((polLen3 ((polV (roll p0)).1, (((polV (roll p0)).2).1, ())) (useV (polN (roll p0))) (dof (dnext (dofN (dnext (useN (polN (roll p0))) 4) ([10, 9, 30, 100, 0, 7, 8, 40000])) 12) ([0, 5, (-1)]))))
                                  (br ((beqq ((AllowedF ((polV (roll p0)).1, (((polV (roll p0)).2).1, ())) (useV (polN (roll p0))) (dof (dnext (dofN (dnext (useN (polN (roll p0))) 4) ([10, 9, 30, 100, 0, 7, 8, 40000])) 12) ([0, 5, (-1)])) (dof (dnext (useN (polN (roll p0))) 4) ([10, 9, 30, 100, 0, 7, 8, 40000]))).1) ((AllowedF ((polV (roll p0)).1, (((polV (roll p0)).2).1, ())) (useV (polN (roll p0))) (dof (dnext (dofN (dnext (useN (polN (roll p0))) 4) ([10, 9, 30, 100, 0, 7, 8, 40000])) 12) ([0, 5, (-1)])) (dof (dnext (useN (polN (roll p0))) 4) ([10, 9, 30, 100, 0, 7, 8, 40000]))).1)))
                                    (br ((ieq (((AllowedF ((polV (roll p0)).1, (((polV (roll p0)).2).1, ())) (useV (polN (roll p0))) (dof (dnext (dofN (dnext (useN (polN (roll p0))) 4) ([10, 9, 30, 100, 0, 7, 8, 40000])) 12) ([0, 5, (-1)])) (dof (dnext (useN (polN (roll p0))) 4) ([10, 9, 30, 100, 0, 7, 8, 40000]))).2).1) (((AllowedF ((polV (roll p0)).1, (((polV (roll p0)).2).1, ())) (useV (polN (roll p0))) (dof (dnext (dofN (dnext (useN (polN (roll p0))) 4) ([10, 9, 30, 100, 0, 7, 8, 40000])) 12) ([0, 5, (-1)])) (dof (dnext (useN (polN (roll p0))) 4) ([10, 9, 30, 100, 0, 7, 8, 40000]))).2).1)))
                                      (br ((ieq (((AllowedF ((polV (roll p0)).1, (((polV (roll p0)).2).1, ())) (useV (polN (roll p0))) (dof (dnext (dofN (dnext (useN (polN (roll p0))) 4) ([10, 9, 30, 100, 0, 7, 8, 40000])) 12) ([0, 5, (-1)])) (dof (dnext (useN (polN (roll p0))) 4) ([10, 9, 30, 100, 0, 7, 8, 40000]))).2).2) (((AllowedF ((polV (roll p0)).1, (((polV (roll p0)).2).1, ())) (useV (polN (roll p0))) (dof (dnext (dofN (dnext (useN (polN (roll p0))) 4) ([10, 9, 30, 100, 0, 7, 8, 40000])) 12) ([0, 5, (-1)])) (dof (dnext (useN (polN (roll p0))) 4) ([10, 9, 30, 100, 0, 7, 8, 40000]))).2).2)))
                                        (br ((ieq ((SpansF ((polV (roll p0)).1, (((polV (roll p0)).2).1, ())) (useV (polN (roll p0))) (dof (dnext (dofN (dnext (useN (polN (roll p0))) 4) ([10, 9, 30, 100, 0, 7, 8, 40000])) 12) ([0, 5, (-1)]))).2) ((SpansF ((polV (roll p0)).1, (((polV (roll p0)).2).1, ())) (useV (polN (roll p0))) (dof (dnext (dofN (dnext (useN (polN (roll p0))) 4) ([10, 9, 30, 100, 0, 7, 8, 40000])) 12) ([0, 5, (-1)]))).2)))
                                          (br ((sameOk0 ((SpansF ((polV (roll p0)).1, (((polV (roll p0)).2).1, ())) (useV (polN (roll p0))) (dof (dnext (dofN (dnext (useN (polN (roll p0))) 4) ([10, 9, 30, 100, 0, 7, 8, 40000])) 12) ([0, 5, (-1)]))).1) ((SpansF ((polV (roll p0)).1, (((polV (roll p0)).2).1, ())) (useV (polN (roll p0))) (dof (dnext (dofN (dnext (useN (polN (roll p0))) 4) ([10, 9, 30, 100, 0, 7, 8, 40000])) 12) ([0, 5, (-1)]))).1)))
                                            (br ((same ((SpansF ((polV (roll p0)).1, (((polV (roll p0)).2).1, ())) (useV (polN (roll p0))) (dof (dnext (dofN (dnext (useN (polN (roll p0))) 4) ([10, 9, 30, 100, 0, 7, 8, 40000])) 12) ([0, 5, (-1)]))).1) ((SpansF ((polV (roll p0)).1, (((polV (roll p0)).2).1, ())) (useV (polN (roll p0))) (dof (dnext (dofN (dnext (useN (polN (roll p0))) 4) ([10, 9, 30, 100, 0, 7, 8, 40000])) 12) ([0, 5, (-1)]))).1)))
                                              (br ((ieq ((FallsF ((polV (roll p0)).1, (((polV (roll p0)).2).1, ())) (useV (polN (roll p0))) (dof (dnext (dofN (dnext (useN (polN (roll p0))) 4) ([10, 9, 30, 100, 0, 7, 8, 40000])) 12) ([0, 5, (-1)]))).1) ((FallsF ((polV (roll p0)).1, (((polV (roll p0)).2).1, ())) (useV (polN (roll p0))) (dof (dnext (dofN (dnext (useN (polN (roll p0))) 4) ([10, 9, 30, 100, 0, 7, 8, 40000])) 12) ([0, 5, (-1)]))).1)))
                                                (br ((beqq (((FallsF ((polV (roll p0)).1, (((polV (roll p0)).2).1, ())) (useV (polN (roll p0))) (dof (dnext (dofN (dnext (useN (polN (roll p0))) 4) ([10, 9, 30, 100, 0, 7, 8, 40000])) 12) ([0, 5, (-1)]))).2).1) (((FallsF ((polV (roll p0)).1, (((polV (roll p0)).2).1, ())) (useV (polN (roll p0))) (dof (dnext (dofN (dnext (useN (polN (roll p0))) 4) ([10, 9, 30, 100, 0, 7, 8, 40000])) 12) ([0, 5, (-1)]))).2).1)))
                                                  (br ((ieq (((FallsF ((polV (roll p0)).1, (((polV (roll p0)).2).1, ())) (useV (polN (roll p0))) (dof (dnext (dofN (dnext (useN (polN (roll p0))) 4) ([10, 9, 30, 100, 0, 7, 8, 40000])) 12) ([0, 5, (-1)]))).2).2) (((FallsF ((polV (roll p0)).1, (((polV (roll p0)).2).1, ())) (useV (polN (roll p0))) (dof (dnext (dofN (dnext (useN (polN (roll p0))) 4) ([10, 9, 30, 100, 0, 7, 8, 40000])) 12) ([0, 5, (-1)]))).2).2)))
                                                    (frk
                                                      (r_law18_VerdictMade_5 p0 p1 p2)
                                                      (r_law18_VerdictMade_5 p0 p1 p2))
                                                    (r_law18_VerdictMade_3 p0 p1 p2))
                                                  (r_law18_VerdictMade_3 p0 p1 p2))
                                                (r_law18_VerdictMade_3 p0 p1 p2))
                                              (r_law18_VerdictMade_3 p0 p1 p2))
                                            (none))
                                          (r_law18_VerdictMade_3 p0 p1 p2))
                                        (r_law18_VerdictMade_3 p0 p1 p2))
                                      (r_law18_VerdictMade_3 p0 p1 p2))
                                    (r_law18_VerdictMade_3 p0 p1 p2))
                                  (none))
                                (none))
                              (none))
                            (none))
                          (none))
                        (none))
                      (none))
                    (br ((ieq (dval (dofN (dnext (useN (polN (roll p0))) 4) ([10, 9, 30, 100, 0, 7, 8, 40000])) 12) 3))
                      (frk
                        (r_law18_VerdictMade_6 p0 p1 p2)
                        (r_law18_VerdictMade_6 p0 p1 p2))
                      (br ((polLen4 ((polV (roll p0)).1, (((polV (roll p0)).2).1, ())) (useV (polN (roll p0))) (iadd .i64 1 (dval (useN (polN (roll p0))) 4)) (dof (dnext (useN (polN (roll p0))) 4) ([10, 9, 30, 100, 0, 7, 8, 40000]))))
                        (br ((polLen4 ((polV (roll p0)).1, (((polV (roll p0)).2).1, ())) (useV (polN (roll p0))) (iadd .i64 1 (dval (useN (polN (roll p0))) 4)) (dof (dnext (useN (polN (roll p0))) 4) ([10, 9, 30, 100, 0, 7, 8, 40000]))))
                          (br ((polLen3 ((polV (roll p0)).1, (((polV (roll p0)).2).1, ())) (useV (polN (roll p0))) (iadd .i64 1 (dval (useN (polN (roll p0))) 4))))
                            (br ((polLen3 ((polV (roll p0)).1, (((polV (roll p0)).2).1, ())) (useV (polN (roll p0))) (iadd .i64 1 (dval (useN (polN (roll p0))) 4))))
                              (br ((polLen3 ((polV (roll p0)).1, (((polV (roll p0)).2).1, ())) (useV (polN (roll p0))) (iadd .i64 1 (dval (useN (polN (roll p0))) 4))))
                                (br ((polLen3 ((polV (roll p0)).1, (((polV (roll p0)).2).1, ())) (useV (polN (roll p0))) (iadd .i64 1 (dval (useN (polN (roll p0))) 4))))
                                  (br ((beqq ((AllowedF ((polV (roll p0)).1, (((polV (roll p0)).2).1, ())) (useV (polN (roll p0))) (iadd .i64 1 (dval (useN (polN (roll p0))) 4)) (dof (dnext (useN (polN (roll p0))) 4) ([10, 9, 30, 100, 0, 7, 8, 40000]))).1) ((AllowedF ((polV (roll p0)).1, (((polV (roll p0)).2).1, ())) (useV (polN (roll p0))) (iadd .i64 1 (dval (useN (polN (roll p0))) 4)) (dof (dnext (useN (polN (roll p0))) 4) ([10, 9, 30, 100, 0, 7, 8, 40000]))).1)))
                                    (br ((ieq (((AllowedF ((polV (roll p0)).1, (((polV (roll p0)).2).1, ())) (useV (polN (roll p0))) (iadd .i64 1 (dval (useN (polN (roll p0))) 4)) (dof (dnext (useN (polN (roll p0))) 4) ([10, 9, 30, 100, 0, 7, 8, 40000]))).2).1) (((AllowedF ((polV (roll p0)).1, (((polV (roll p0)).2).1, ())) (useV (polN (roll p0))) (iadd .i64 1 (dval (useN (polN (roll p0))) 4)) (dof (dnext (useN (polN (roll p0))) 4) ([10, 9, 30, 100, 0, 7, 8, 40000]))).2).1)))
                                      (br ((ieq (((AllowedF ((polV (roll p0)).1, (((polV (roll p0)).2).1, ())) (useV (polN (roll p0))) (iadd .i64 1 (dval (useN (polN (roll p0))) 4)) (dof (dnext (useN (polN (roll p0))) 4) ([10, 9, 30, 100, 0, 7, 8, 40000]))).2).2) (((AllowedF ((polV (roll p0)).1, (((polV (roll p0)).2).1, ())) (useV (polN (roll p0))) (iadd .i64 1 (dval (useN (polN (roll p0))) 4)) (dof (dnext (useN (polN (roll p0))) 4) ([10, 9, 30, 100, 0, 7, 8, 40000]))).2).2)))
                                        (r_law18_VerdictMade_4 p0 p1 p2)
                                        (r_law18_VerdictMade_3 p0 p1 p2))
                                      (r_law18_VerdictMade_3 p0 p1 p2))
                                    (r_law18_VerdictMade_3 p0 p1 p2))
                                  (none))
                                (none))
                              (none))
                            (none))
                          (none))
                        (none))))))
              (none))
            (none))
          (none))
        (none))
      (none))
theorem e_law18_VerdictMade (p0 : (List Int)) (p1 : Keep) (p2 : Int) : runF g_law18_VerdictMade tc_law18_VerdictMade rv_law18_VerdictMade false [.t (.sl tI) p0, .t tyKeep p1, .t tI p2] [] = r_law18_VerdictMade p0 p1 p2 := by kernel_rfl
theorem ok_law18_VerdictMade : Option.map (trC Try.prog) Try.f5.body = some tc_law18_VerdictMade.er := by kernel_rfl
theorem rok_law18_VerdictMade : trVs Try.prog Try.f5.results.toList = some (rv_law18_VerdictMade.map Prod.fst) := by kernel_rfl
theorem en_law18_VerdictMade : Entered Try.prog 5 := .inr ⟨by decide, _, Try.func5, by kernel_rfl, by kernel_rfl⟩
theorem gk_law18_VerdictMade : GOk Try.prog g_law18_VerdictMade := gok_of _ (by
  intro p hp
  simp only [List.mem_cons, List.not_mem_nil, or_false] at hp
  rcases hp with rfl | rfl | rfl | rfl | rfl | rfl | rfl | rfl | rfl | rfl | rfl | rfl | rfl | rfl | rfl | rfl
  · exact ⟨en_law18_awake, ms_law18_awake⟩
  · exact ⟨en_verdict_Keep, ms_verdict_Keep⟩
  · exact ⟨en_make_Light, ms_make_Light⟩
  · exact ⟨en_make_Roll, ms_make_Roll⟩
  · exact ⟨en_make_Policy, ms_make_Policy⟩
  · exact ⟨en_make_Use, ms_make_Use⟩
  · exact ⟨en_make_Dice_Next, ms_make_Dice_Next⟩
  · exact ⟨en_verdict_Spans, ms_verdict_Spans⟩
  · exact ⟨en_verdict_Falls, ms_verdict_Falls⟩
  · exact ⟨en_verdict_Allowed, ms_verdict_Allowed⟩
  · exact ⟨en_make_Dice_Of, ms_make_Dice_Of⟩
  · exact ⟨en_ref18_Allowed, ms_ref18_Allowed⟩
  · exact ⟨en_ref18_Spans, ms_ref18_Spans⟩
  · exact ⟨en_ref18_Falls, ms_ref18_Falls⟩
  · exact ⟨en_ref18_SameSpans, ms_ref18_SameSpans⟩
  · exact ⟨en_ref18_Keep, ms_ref18_Keep⟩)
theorem lk_law18_VerdictMade : tc_law18_VerdictMade.lok g_law18_VerdictMade := by repeat (first | exact trivial | refine ⟨?_, ?_⟩)
theorem s_law18_VerdictMade (p0 : List Int) (p1 : Keep) (p2 : Int) : r_law18_VerdictMade p0 p1 p2 = some (.t .bool (lawMade p0 p1 p2), []) := by
  unfold r_law18_VerdictMade
  refine br_intro (fun _ => rfl) (fun g1 => ?_)
  have hd := not_light g1
  have l4 : ∀ d u q t, polLen4 ((polV d).1, ((polV d).2.1, ())) u q t = true := fun d u q t => pol_lenI d
  have l3 : ∀ d u q, polLen3 ((polV d).1, ((polV d).2.1, ())) u q = true := fun d u q => pol_lenI d
  have a4 : ∀ d r u q t, polLen4 ((polV d).1 ++ [r], ((polV d).2.1, ())) u q t = true := fun d r u q t => pol_lenA d r
  have a3 : ∀ d r u q, polLen3 ((polV d).1 ++ [r], ((polV d).2.1, ())) u q = true := fun d r u q => pol_lenA d r
  have k1 : ∀ d q, keepLen ((polV d).1, ((polV d).2.1, ())) q = true := fun d q => by
    have := pol_lenI d
    simp only [polLen, Bool.and_eq_true] at this
    exact this.2
  have k2 : ∀ d r q, keepLen ((polV d).1 ++ [r], ((polV d).2.1, ())) q = true := fun d r q => by
    have := pol_lenA d r
    simp only [polLen, Bool.and_eq_true] at this
    exact this.2
  have s1 : ∀ d u q b, sameOk0 (SpansF ((polV d).1, ((polV d).2.1, ())) u q).1 b = true := fun d u q b => spans_ok (pol_lenI d)
  have s2 : ∀ d r u q b, sameOk0 (SpansF ((polV d).1 ++ [r], ((polV d).2.1, ())) u q).1 b = true := fun d r u q b => spans_ok (pol_lenA d r)
  have n4 : ∀ d, dOk d = true → nextOk d 4 = true := fun d h => nextOkI h rfl
  have n12 : ∀ d, dOk d = true → nextOk d 12 = true := fun d h => nextOkI h rfl
  have f1 : ∀ d, dOk d = true → ofOk d [10, 9, 30, 100, 0, 7, 8, 40000] = true := fun d h => ofOkI h rfl
  have f2 : ∀ d, dOk d = true → ofOk d [0, 5, -1] = true := fun d h => ofOkI h rfl
  have f3 : ∀ d, dOk d = true → ofOk d [-1, 3] = true := fun d h => ofOkI h rfl
  have f4 : ∀ d, dOk d = true → ofOk d [5, 9] = true := fun d h => ofOkI h rfl
  have c1 : ∀ d (r : Rule), cApp (polV d).1 [r] 48 = true := fun d r => cApp_ok (by have := pol_size d; simp; omega) (by omega)
  have u1 : ∀ d, dOk d = true → dOk (useN d) = true := fun d h => dOk_use h
  have u2 : ∀ d, dOk d = true → dOk (polN d) = true := fun d h => dOk_pol h
  simp (maxDischargeDepth := 30) only [r_law18_VerdictMade, r_law18_VerdictMade_1, r_law18_VerdictMade_2, r_law18_VerdictMade_3, r_law18_VerdictMade_4, r_law18_VerdictMade_5, r_law18_VerdictMade_6, r_law18_VerdictMade_7, frk_self, l4, l3, a4, a3, k1, k2, s1, s2, n4, n12, f1, f2, f3, f4, c1, u1, u2, dOk_nextI, dOk_of, hd, ieq_self, beqq_self, same_self, br_true, frk_self]
  repeat' (refine br_intro ?_ ?_ <;> intro _)
  all_goals rfl
def sp_law18_VerdictMade : Ent := spec (.pr (.sl tI) (.pr tyKeep (.pr tI .nil))) (fun x => true) (fun x => (.t .bool (lawMade x.1 x.2.1 x.2.2.1)))
theorem ms_law18_VerdictMade : Meets Try.prog 5 (strip sp_law18_VerdictMade) := by
  obtain ⟨c, hc, hi⟩ := Option.map_eq_some_iff.1 ok_law18_VerdictMade
  exact meets_spec (R := runF g_law18_VerdictMade tc_law18_VerdictMade rv_law18_VerdictMade false) (meets_of (by decide) Try.func5 hc hi Try.ntmps5 rok_law18_VerdictMade gk_law18_VerdictMade lk_law18_VerdictMade mixed) fun x _ => (e_law18_VerdictMade x.1 x.2.1 x.2.2.1).trans (s_law18_VerdictMade x.1 x.2.1 x.2.2.1)
theorem walkVerdictMade (z0 : (List Int)) (z1 : Keep) (z2 : Int) (W : World) (v0 : Value) (v1 : Value) (v2 : Value) (c0 : C noX W (fun _ => .no) (V.t (.sl tI) z0).d v0) (c1 : C noX W (fun _ => .no) (V.t tyKeep z1).d v1) (c2 : C noX W (fun _ => .no) (V.t tI z2).d v2) (w0 : Ty.wf (.sl tI) z0) (w1 : Ty.wf tyKeep z1) (w2 : Ty.wf tI z2) :
    Calls Try.prog 5 #[v0, v1, v2] W fun r w' => r = .returned (.bool true) ∧ Below W.heap.size W w' :=
  calls_true (by decide) ms_law18_VerdictMade (args := [.t (.sl tI) z0, .t tyKeep z1, .t tI z2]) (strip_spec (x := (z0, z1, z2, ())) rfl (rfl)) (by simp only [V.ds, Cs]; exact ⟨_, _, rfl, c0, _, _, rfl, c1, _, _, rfl, c2, rfl⟩)
end
end Go.Proofs.Ytfldcnhkppgmbaa.K
