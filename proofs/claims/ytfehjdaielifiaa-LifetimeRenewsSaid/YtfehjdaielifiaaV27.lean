/-
  The law that a signature that is renewed in time by a use without a fall never fails.
-/
import Derived.Test.YtfehjdaielifiaaV23
import Derived.Test.YtfehjdaielifiaaP23
import Derived.Test.YtfehjdaielifiaaV25
import Derived.Test.YtfehjdaielifiaaP24
set_option linter.unusedSimpArgs false
set_option linter.unusedVariables false
namespace Go.Proofs.Ytfehjdaielifiaa.K
open Go.RowKit
def lawRenews (_ : List Int) : Bool := true
/-- cipherplan/cipherplanlaw22.LifetimeRenews -/
def tc_law22_LifetimeRenews : TC := (.sq (.reg [(.mk (some 2) none (.m (.pu (.mv (.c (.v (.bool false)))))))]) (.sq (.sq (.reg [(.mk (some 27) none (.m (.pu (.mv (.t 0))))), (.mk (some 28) none (.call 7 [(.t 27)])), (.mk (some 29) none (.m (.pu (.nt (.t 28)))))]) (.cd (.t 29) (.sq (.reg [(.mk (some 30) none (.call 8 [])), (.mk (some 2) none (.m (.pu (.mv (.t 30)))))]) .rt) .sk)) (.sq (.reg [(.mk (some 31) none (.m (.pu (.mv (.t 0))))), (.mk (some 32) none (.call 9 [(.t 31)])), (.mk (some 3) none (.m (.pu (.mv (.t 32)))))]) (.sq (.reg [(.mk (some 33) none (.m (.pu (.mv (.t 3))))), (.mk (some 34) none (.call 10 [(.t 33)])), (.mk (some 35) none (.m (.pu (.mv (.t 3))))), (.mk (some 36) none (.call 11 [(.t 35), (.c (.v (.string (ByteArray.mk #[100, 101, 101, 100]))))])), (.mk (some 4) none (.m (.new [(.v (.slice none 0 0)), (.v (.slice none 0 0))]))), (.mk (some 5) none (.m (.new [(.v (.string (ByteArray.mk #[]))), (.v (.int .i64 0)), (.v (.int .i64 0)), (.v (.slice none 0 0)), (.v (.int .i64 0))]))), (.mk none none (.m (.st 2 (.t 4) (.t 34)))), (.mk none none (.m (.st 5 (.t 5) (.t 36))))]) (.sq (.reg [(.mk (some 37) none (.m (.pu (.fa 1 (.t 5))))), (.mk none none (.m (.st 1 (.t 37) (.c (.v (.int .i64 2))))))]) (.sq (.reg [(.mk (some 38) none (.m (.pu (.bd [(.v (.int .i64 0)), (.v (.int .i64 0))] [(0, 1, (.c (.v (.int .i64 4))))])))), (.mk (some 6) none (.m (.new [(.v (.int .i64 0)), (.v (.int .i64 0))]))), (.mk none none (.m (.st 2 (.t 6) (.t 38))))]) (.sq (.sq (.reg [(.mk (some 40) none (.m (.ld true 2 (.t 4)))), (.mk (some 41) none (.m (.ld true 2 (.t 6)))), (.mk (some 42) none (.m (.pu (.fa 2 (.t 5))))), (.mk (some 43) none (.m (.ld false 1 (.t 42)))), (.mk (some 44) none (.call 13 [(.t 40), (.t 41), (.t 43)])), (.mk (some 39) none (.m (.pu (.mv (.t 44))))), (.mk (some 45) none (.m (.pu (.ext 0 (.t 39))))), (.mk (some 46) none (.m (.pu (.ext 1 (.t 39))))), (.mk (some 47) none (.m (.pu (.ext 2 (.t 39))))), (.mk (some 7) none (.m (.pu (.mv (.t 45))))), (.mk (some 8) none (.m (.pu (.mv (.t 46))))), (.mk (some 9) none (.m (.pu (.mv (.t 47)))))]) (.sq (.reg [(.mk (some 48) none (.m (.pu (.mv (.t 8)))))]) (.cd (.t 48) (.sq (.reg [(.mk (some 49) none (.call 8 [])), (.mk (some 2) none (.m (.pu (.mv (.t 49)))))]) .rt) .sk))) (.sq (.reg [(.mk (some 51) none (.m (.ld true 2 (.t 4)))), (.mk (some 52) none (.m (.ld true 5 (.t 5)))), (.mk (some 53) none (.call 20 [(.t 51), (.t 52)])), (.mk (some 50) none (.m (.pu (.mv (.t 53))))), (.mk (some 54) none (.m (.pu (.ext 0 (.t 50))))), (.mk (some 55) none (.m (.pu (.ext 1 (.t 50))))), (.mk (some 56) none (.m (.pu (.ext 2 (.t 50))))), (.mk (some 10) none (.m (.pu (.mv (.t 54))))), (.mk (some 11) none (.m (.pu (.mv (.t 55))))), (.mk (some 12) none (.m (.pu (.mv (.t 56)))))]) (.sq (.reg [(.mk (some 58) none (.m (.ld true 2 (.t 4)))), (.mk (some 59) none (.m (.ld true 5 (.t 5)))), (.mk (some 60) none (.call 12 [(.t 58), (.t 59)])), (.mk (some 57) none (.m (.pu (.mv (.t 60))))), (.mk (some 61) none (.m (.pu (.ext 0 (.t 57))))), (.mk (some 62) none (.m (.pu (.ext 1 (.t 57))))), (.mk (some 13) none (.m (.pu (.mv (.t 61))))), (.mk (some 14) none (.m (.pu (.mv (.t 62)))))]) (.sq (.reg [(.mk (some 64) none (.m (.ld true 2 (.t 4)))), (.mk (some 65) none (.m (.ld true 5 (.t 5)))), (.mk (some 66) none (.call 14 [(.t 64), (.t 65)])), (.mk (some 63) none (.m (.pu (.mv (.t 66))))), (.mk (some 67) none (.m (.pu (.ext 0 (.t 63))))), (.mk (some 68) none (.m (.pu (.ext 1 (.t 63))))), (.mk (some 15) none (.m (.pu (.mv (.t 67))))), (.mk (some 16) none (.m (.pu (.mv (.t 68)))))]) (.sq (.sq (.reg [(.mk (some 69) none (.m (.pu (.mv (.t 12))))), (.mk (some 70) none (.m (.pu (.bin false .neq (.t 69) (.c (.v (.int .i64 0))))))), (.mk (some 71) none (.m (.pu (.mv (.t 70))))), (.mk (some 72) (some (71, false)) (.m (.pu (.mv (.t 14))))), (.mk (some 73) (some (71, false)) (.m (.pu (.bin false .neq (.t 72) (.c (.v (.int .i64 0))))))), (.mk (some 74) none (.m (.pu (.pick (.t 71) (.c (.v (.bool true))) (.t 73))))), (.mk (some 75) none (.m (.pu (.mv (.t 74))))), (.mk (some 76) (some (75, false)) (.m (.pu (.mv (.t 13))))), (.mk (some 77) (some (75, false)) (.m (.pu (.bin false .lss (.t 76) (.c (.v (.int .i64 1))))))), (.mk (some 78) none (.m (.pu (.pick (.t 75) (.c (.v (.bool true))) (.t 77))))), (.mk (some 79) none (.m (.pu (.mv (.t 78))))), (.mk (some 80) (some (79, false)) (.m (.pu (.mv (.t 13))))), (.mk (some 81) (some (79, false)) (.m (.pu (.fa 3 (.t 5))))), (.mk (some 82) (some (79, false)) (.m (.ld false 1 (.t 81)))), (.mk (some 83) (some (79, false)) (.m (.pu (.len false (.t 82))))), (.mk (some 84) (some (79, false)) (.m (.pu (.bin false .gtr (.t 80) (.t 83))))), (.mk (some 85) none (.m (.pu (.pick (.t 79) (.c (.v (.bool true))) (.t 84))))), (.mk (some 86) none (.m (.pu (.mv (.t 85))))), (.mk (some 87) (some (86, false)) (.m (.pu (.mv (.t 11))))), (.mk (some 88) (some (86, false)) (.m (.pu (.mv (.t 87))))), (.mk (some 89) (some (88, true)) (.m (.pu (.mv (.t 13))))), (.mk (some 90) (some (88, true)) (.m (.pu (.fa 3 (.t 5))))), (.mk (some 91) (some (88, true)) (.m (.ld false 1 (.t 90)))), (.mk (some 92) (some (88, true)) (.m (.pu (.len false (.t 91))))), (.mk (some 93) (some (88, true)) (.m (.pu (.bin false .neq (.t 89) (.t 92))))), (.mk (some 94) (some (86, false)) (.m (.pu (.pick (.t 88) (.t 93) (.c (.v (.bool false))))))), (.mk (some 95) none (.m (.pu (.pick (.t 86) (.c (.v (.bool true))) (.t 94)))))]) (.cd (.t 95) (.sq (.reg [(.mk (some 2) none (.m (.pu (.mv (.c (.v (.bool false)))))))]) .rt) .sk)) (.sq (.sq (.reg [(.mk (some 96) none (.m (.pu (.mv (.t 11))))), (.mk (some 97) none (.m (.pu (.nt (.t 96)))))]) (.cd (.t 97) (.sq (.reg [(.mk (some 98) none (.call 8 [])), (.mk (some 2) none (.m (.pu (.mv (.t 98)))))]) .rt) .sk)) (.sq (.reg [(.mk (some 100) none (.m (.ld true 2 (.t 4)))), (.mk (some 101) none (.m (.ld true 5 (.t 5)))), (.mk (some 102) none (.m (.ld true 2 (.t 6)))), (.mk (some 103) none (.m (.pu (.mv (.t 10))))), (.mk (some 104) none (.call 19 [(.t 100), (.t 101), (.t 102), (.t 103)])), (.mk (some 99) none (.m (.pu (.mv (.t 104))))), (.mk (some 105) none (.m (.pu (.ext 0 (.t 99))))), (.mk (some 106) none (.m (.pu (.ext 1 (.t 99))))), (.mk (some 17) none (.m (.new [(.v (.string (ByteArray.mk #[]))), (.v (.int .i64 0)), (.v (.int .i64 0)), (.v (.slice none 0 0)), (.v (.int .i64 0))]))), (.mk none none (.m (.st 5 (.t 17) (.t 105)))), (.mk (some 18) none (.m (.pu (.mv (.t 106)))))]) (.sq (.sq (.reg [(.mk (some 107) none (.m (.pu (.mv (.t 18))))), (.mk (some 108) none (.m (.pu (.bin false .neq (.t 107) (.c (.v (.int .i64 0)))))))]) (.cd (.t 108) (.sq (.reg [(.mk (some 2) none (.m (.pu (.mv (.c (.v (.bool false)))))))]) .rt) .sk)) (.sq (.reg [(.mk (some 110) none (.m (.ld true 2 (.t 4)))), (.mk (some 111) none (.m (.ld true 5 (.t 17)))), (.mk (some 112) none (.call 14 [(.t 110), (.t 111)])), (.mk (some 109) none (.m (.pu (.mv (.t 112))))), (.mk (some 113) none (.m (.pu (.ext 0 (.t 109))))), (.mk (some 114) none (.m (.pu (.ext 1 (.t 109))))), (.mk (some 19) none (.m (.pu (.mv (.t 113))))), (.mk (some 20) none (.m (.pu (.mv (.t 114)))))]) (.sq (.sq (.reg [(.mk (some 115) none (.m (.pu (.mv (.t 20)))))]) (.cd (.t 115) (.sq (.reg [(.mk (some 2) none (.m (.pu (.mv (.c (.v (.bool false)))))))]) .rt) .sk)) (.sq (.sq (.reg [(.mk (some 116) none (.m (.pu (.mv (.t 16))))), (.mk (some 117) none (.m (.pu (.nt (.t 116)))))]) (.cd (.t 117) (.sq (.reg [(.mk (some 118) none (.m (.pu (.mv (.t 10))))), (.mk (some 119) none (.m (.pu (.bin false .eql (.t 118) (.c (.v (.int .i64 40000))))))), (.mk (some 120) none (.m (.pu (.mv (.t 119))))), (.mk (some 121) (some (120, true)) (.call 8 [])), (.mk (some 122) none (.m (.pu (.pick (.t 120) (.t 121) (.c (.v (.bool false))))))), (.mk (some 2) none (.m (.pu (.mv (.t 122)))))]) .rt) .sk)) (.sq (.reg [(.mk (some 124) none (.m (.ld true 2 (.t 4)))), (.mk (some 125) none (.m (.ld true 5 (.t 5)))), (.mk (some 126) none (.m (.ld true 2 (.t 6)))), (.mk (some 127) none (.m (.pu (.mv (.t 10))))), (.mk (some 128) none (.m (.pu (.bin false .add (.t 127) (.c (.v (.int .i64 1))))))), (.mk (some 129) none (.call 19 [(.t 124), (.t 125), (.t 126), (.t 128)])), (.mk (some 123) none (.m (.pu (.mv (.t 129))))), (.mk (some 130) none (.m (.pu (.ext 0 (.t 123))))), (.mk (some 131) none (.m (.pu (.ext 1 (.t 123))))), (.mk (some 21) none (.m (.new [(.v (.string (ByteArray.mk #[]))), (.v (.int .i64 0)), (.v (.int .i64 0)), (.v (.slice none 0 0)), (.v (.int .i64 0))]))), (.mk none none (.m (.st 5 (.t 21) (.t 130)))), (.mk (some 22) none (.m (.pu (.mv (.t 131)))))]) (.sq (.reg [(.mk (some 133) none (.m (.ld true 2 (.t 4)))), (.mk (some 134) none (.m (.ld true 5 (.t 21)))), (.mk (some 135) none (.call 14 [(.t 133), (.t 134)])), (.mk (some 132) none (.m (.pu (.mv (.t 135))))), (.mk (some 136) none (.m (.pu (.ext 0 (.t 132))))), (.mk (some 137) none (.m (.pu (.ext 1 (.t 132))))), (.mk (some 23) none (.m (.pu (.mv (.t 136))))), (.mk (some 24) none (.m (.pu (.mv (.t 137)))))]) (.sq (.reg [(.mk (some 139) none (.m (.ld true 2 (.t 4)))), (.mk (some 140) none (.m (.ld true 5 (.t 21)))), (.mk (some 141) none (.call 12 [(.t 139), (.t 140)])), (.mk (some 138) none (.m (.pu (.mv (.t 141))))), (.mk (some 142) none (.m (.pu (.ext 0 (.t 138))))), (.mk (some 143) none (.m (.pu (.ext 1 (.t 138))))), (.mk (some 25) none (.m (.pu (.mv (.t 142))))), (.mk (some 26) none (.m (.pu (.mv (.t 143)))))]) (.sq (.reg [(.mk (some 144) none (.m (.pu (.mv (.t 22))))), (.mk (some 145) none (.m (.pu (.bin false .eql (.t 144) (.c (.v (.int .i64 0))))))), (.mk (some 146) none (.m (.pu (.mv (.t 145))))), (.mk (some 147) (some (146, true)) (.m (.pu (.mv (.t 26))))), (.mk (some 148) (some (146, true)) (.m (.pu (.bin false .eql (.t 147) (.c (.v (.int .i64 0))))))), (.mk (some 149) none (.m (.pu (.pick (.t 146) (.t 148) (.c (.v (.bool false))))))), (.mk (some 150) none (.m (.pu (.mv (.t 149))))), (.mk (some 151) (some (150, true)) (.m (.pu (.mv (.t 24))))), (.mk (some 152) none (.m (.pu (.pick (.t 150) (.t 151) (.c (.v (.bool false))))))), (.mk (some 153) none (.m (.pu (.mv (.t 152))))), (.mk (some 154) (some (153, true)) (.m (.pu (.mv (.t 23))))), (.mk (some 155) (some (153, true)) (.m (.pu (.mv (.t 15))))), (.mk (some 156) (some (153, true)) (.m (.pu (.bin false .eql (.t 154) (.t 155))))), (.mk (some 157) none (.m (.pu (.pick (.t 153) (.t 156) (.c (.v (.bool false))))))), (.mk (some 158) none (.m (.pu (.mv (.t 157))))), (.mk (some 159) (some (158, true)) (.m (.pu (.mv (.t 10))))), (.mk (some 160) (some (158, true)) (.m (.pu (.mv (.t 15))))), (.mk (some 161) (some (158, true)) (.m (.pu (.bin false .sub (.t 160) (.c (.v (.int .i64 1))))))), (.mk (some 162) (some (158, true)) (.m (.pu (.bin false .eql (.t 159) (.t 161))))), (.mk (some 163) none (.m (.pu (.pick (.t 158) (.t 162) (.c (.v (.bool false))))))), (.mk (some 164) none (.m (.pu (.mv (.t 163))))), (.mk (some 165) (some (164, true)) (.m (.pu (.mv (.t 25))))), (.mk (some 166) (some (164, true)) (.m (.pu (.fa 3 (.t 5))))), (.mk (some 167) (some (164, true)) (.m (.ld false 1 (.t 166)))), (.mk (some 168) (some (164, true)) (.m (.pu (.len false (.t 167))))), (.mk (some 169) (some (164, true)) (.m (.pu (.bin false .eql (.t 165) (.t 168))))), (.mk (some 170) none (.m (.pu (.pick (.t 164) (.t 169) (.c (.v (.bool false))))))), (.mk (some 171) none (.m (.pu (.mv (.t 170))))), (.mk (some 172) (some (171, true)) (.call 8 [])), (.mk (some 173) none (.m (.pu (.pick (.t 171) (.t 172) (.c (.v (.bool false))))))), (.mk (some 2) none (.m (.pu (.mv (.t 173)))))]) .rt)))))))))))))))))))))
def rv_law22_LifetimeRenews : List (RV × Option Ty) := [((.t 2), some .bool)]
def g_law22_LifetimeRenews : G := ⟨TYs, [], 174, EL [(7, sp_make_Light), (8, sp_law22_awake), (9, sp_make_Roll), (10, sp_make_Policy), (11, sp_make_Item), (12, sp_lifetime_Links), (13, sp_ref18_Falls), (14, sp_law22_fails), (19, sp_lifetime_Renew), (20, sp_lifetime_Latest)], keeps, (fun _ _ => none), IL [], RL []⟩
def r_law22_LifetimeRenews_1 (p0 : (List Int)) : Option (V × List VO) :=
  br ((!(((LatestF ((polV (roll p0)).1, (((polV (roll p0)).2).1, ())) ((itemV (polN (roll p0)) (ByteArray.mk #[100, 101, 101, 100])).1, (2, ((itemV (polN (roll p0)) (ByteArray.mk #[100, 101, 101, 100])).2).2))).2).1)))
    (some (.t .bool awakeT22, []))
    (br ((renLen ((polV (roll p0)).1, (((polV (roll p0)).2).1, ())) ((itemV (polN (roll p0)) (ByteArray.mk #[100, 101, 101, 100])).1, (2, ((itemV (polN (roll p0)) (ByteArray.mk #[100, 101, 101, 100])).2).2)) (4, (0, ())) ((LatestF ((polV (roll p0)).1, (((polV (roll p0)).2).1, ())) ((itemV (polN (roll p0)) (ByteArray.mk #[100, 101, 101, 100])).1, (2, ((itemV (polN (roll p0)) (ByteArray.mk #[100, 101, 101, 100])).2).2))).1)))
      (br ((ine ((RenewF ((polV (roll p0)).1, (((polV (roll p0)).2).1, ())) ((itemV (polN (roll p0)) (ByteArray.mk #[100, 101, 101, 100])).1, (2, ((itemV (polN (roll p0)) (ByteArray.mk #[100, 101, 101, 100])).2).2)) (4, (0, ())) ((LatestF ((polV (roll p0)).1, (((polV (roll p0)).2).1, ())) ((itemV (polN (roll p0)) (ByteArray.mk #[100, 101, 101, 100])).1, (2, ((itemV (polN (roll p0)) (ByteArray.mk #[100, 101, 101, 100])).2).2))).1)).2) 0))
        (some (.t .bool false, []))
        (br ((fineLen ((polV (roll p0)).1, (((polV (roll p0)).2).1, ())) ((RenewF ((polV (roll p0)).1, (((polV (roll p0)).2).1, ())) ((itemV (polN (roll p0)) (ByteArray.mk #[100, 101, 101, 100])).1, (2, ((itemV (polN (roll p0)) (ByteArray.mk #[100, 101, 101, 100])).2).2)) (4, (0, ())) ((LatestF ((polV (roll p0)).1, (((polV (roll p0)).2).1, ())) ((itemV (polN (roll p0)) (ByteArray.mk #[100, 101, 101, 100])).1, (2, ((itemV (polN (roll p0)) (ByteArray.mk #[100, 101, 101, 100])).2).2))).1)).1)))
          (br ((failsF ((polV (roll p0)).1, (((polV (roll p0)).2).1, ())) ((RenewF ((polV (roll p0)).1, (((polV (roll p0)).2).1, ())) ((itemV (polN (roll p0)) (ByteArray.mk #[100, 101, 101, 100])).1, (2, ((itemV (polN (roll p0)) (ByteArray.mk #[100, 101, 101, 100])).2).2)) (4, (0, ())) ((LatestF ((polV (roll p0)).1, (((polV (roll p0)).2).1, ())) ((itemV (polN (roll p0)) (ByteArray.mk #[100, 101, 101, 100])).1, (2, ((itemV (polN (roll p0)) (ByteArray.mk #[100, 101, 101, 100])).2).2))).1)).1)).2)
            (some (.t .bool false, []))
            (br ((!((failsF ((polV (roll p0)).1, (((polV (roll p0)).2).1, ())) ((itemV (polN (roll p0)) (ByteArray.mk #[100, 101, 101, 100])).1, (2, ((itemV (polN (roll p0)) (ByteArray.mk #[100, 101, 101, 100])).2).2))).2)))
              (br ((ieq ((LatestF ((polV (roll p0)).1, (((polV (roll p0)).2).1, ())) ((itemV (polN (roll p0)) (ByteArray.mk #[100, 101, 101, 100])).1, (2, ((itemV (polN (roll p0)) (ByteArray.mk #[100, 101, 101, 100])).2).2))).1) 40000))
                (some (.t .bool awakeT22, []))
                (some (.t .bool false, [])))
              (br ((renLen ((polV (roll p0)).1, (((polV (roll p0)).2).1, ())) ((itemV (polN (roll p0)) (ByteArray.mk #[100, 101, 101, 100])).1, (2, ((itemV (polN (roll p0)) (ByteArray.mk #[100, 101, 101, 100])).2).2)) (4, (0, ())) (iadd .i64 ((LatestF ((polV (roll p0)).1, (((polV (roll p0)).2).1, ())) ((itemV (polN (roll p0)) (ByteArray.mk #[100, 101, 101, 100])).1, (2, ((itemV (polN (roll p0)) (ByteArray.mk #[100, 101, 101, 100])).2).2))).1) 1)))
                (br ((fineLen ((polV (roll p0)).1, (((polV (roll p0)).2).1, ())) ((RenewF ((polV (roll p0)).1, (((polV (roll p0)).2).1, ())) ((itemV (polN (roll p0)) (ByteArray.mk #[100, 101, 101, 100])).1, (2, ((itemV (polN (roll p0)) (ByteArray.mk #[100, 101, 101, 100])).2).2)) (4, (0, ())) (iadd .i64 ((LatestF ((polV (roll p0)).1, (((polV (roll p0)).2).1, ())) ((itemV (polN (roll p0)) (ByteArray.mk #[100, 101, 101, 100])).1, (2, ((itemV (polN (roll p0)) (ByteArray.mk #[100, 101, 101, 100])).2).2))).1) 1)).1)))
                  (br ((fineLen ((polV (roll p0)).1, (((polV (roll p0)).2).1, ())) ((RenewF ((polV (roll p0)).1, (((polV (roll p0)).2).1, ())) ((itemV (polN (roll p0)) (ByteArray.mk #[100, 101, 101, 100])).1, (2, ((itemV (polN (roll p0)) (ByteArray.mk #[100, 101, 101, 100])).2).2)) (4, (0, ())) (iadd .i64 ((LatestF ((polV (roll p0)).1, (((polV (roll p0)).2).1, ())) ((itemV (polN (roll p0)) (ByteArray.mk #[100, 101, 101, 100])).1, (2, ((itemV (polN (roll p0)) (ByteArray.mk #[100, 101, 101, 100])).2).2))).1) 1)).1)))
                    (br ((ieq ((RenewF ((polV (roll p0)).1, (((polV (roll p0)).2).1, ())) ((itemV (polN (roll p0)) (ByteArray.mk #[100, 101, 101, 100])).1, (2, ((itemV (polN (roll p0)) (ByteArray.mk #[100, 101, 101, 100])).2).2)) (4, (0, ())) (iadd .i64 ((LatestF ((polV (roll p0)).1, (((polV (roll p0)).2).1, ())) ((itemV (polN (roll p0)) (ByteArray.mk #[100, 101, 101, 100])).1, (2, ((itemV (polN (roll p0)) (ByteArray.mk #[100, 101, 101, 100])).2).2))).1) 1)).2) 0))
                      (br ((ieq ((LinksF ((polV (roll p0)).1, (((polV (roll p0)).2).1, ())) ((RenewF ((polV (roll p0)).1, (((polV (roll p0)).2).1, ())) ((itemV (polN (roll p0)) (ByteArray.mk #[100, 101, 101, 100])).1, (2, ((itemV (polN (roll p0)) (ByteArray.mk #[100, 101, 101, 100])).2).2)) (4, (0, ())) (iadd .i64 ((LatestF ((polV (roll p0)).1, (((polV (roll p0)).2).1, ())) ((itemV (polN (roll p0)) (ByteArray.mk #[100, 101, 101, 100])).1, (2, ((itemV (polN (roll p0)) (ByteArray.mk #[100, 101, 101, 100])).2).2))).1) 1)).1)).2) 0))
                        (br ((failsF ((polV (roll p0)).1, (((polV (roll p0)).2).1, ())) ((RenewF ((polV (roll p0)).1, (((polV (roll p0)).2).1, ())) ((itemV (polN (roll p0)) (ByteArray.mk #[100, 101, 101, 100])).1, (2, ((itemV (polN (roll p0)) (ByteArray.mk #[100, 101, 101, 100])).2).2)) (4, (0, ())) (iadd .i64 ((LatestF ((polV (roll p0)).1, (((polV (roll p0)).2).1, ())) ((itemV (polN (roll p0)) (ByteArray.mk #[100, 101, 101, 100])).1, (2, ((itemV (polN (roll p0)) (ByteArray.mk #[100, 101, 101, 100])).2).2))).1) 1)).1)).2)
                          (br ((ieq ((failsF ((polV (roll p0)).1, (((polV (roll p0)).2).1, ())) ((RenewF ((polV (roll p0)).1, (((polV (roll p0)).2).1, ())) ((itemV (polN (roll p0)) (ByteArray.mk #[100, 101, 101, 100])).1, (2, ((itemV (polN (roll p0)) (ByteArray.mk #[100, 101, 101, 100])).2).2)) (4, (0, ())) (iadd .i64 ((LatestF ((polV (roll p0)).1, (((polV (roll p0)).2).1, ())) ((itemV (polN (roll p0)) (ByteArray.mk #[100, 101, 101, 100])).1, (2, ((itemV (polN (roll p0)) (ByteArray.mk #[100, 101, 101, 100])).2).2))).1) 1)).1)).1) ((failsF ((polV (roll p0)).1, (((polV (roll p0)).2).1, ())) ((itemV (polN (roll p0)) (ByteArray.mk #[100, 101, 101, 100])).1, (2, ((itemV (polN (roll p0)) (ByteArray.mk #[100, 101, 101, 100])).2).2))).1)))
                            (br ((ieq ((LatestF ((polV (roll p0)).1, (((polV (roll p0)).2).1, ())) ((itemV (polN (roll p0)) (ByteArray.mk #[100, 101, 101, 100])).1, (2, ((itemV (polN (roll p0)) (ByteArray.mk #[100, 101, 101, 100])).2).2))).1) (isub .i64 ((failsF ((polV (roll p0)).1, (((polV (roll p0)).2).1, ())) ((itemV (polN (roll p0)) (ByteArray.mk #[100, 101, 101, 100])).1, (2, ((itemV (polN (roll p0)) (ByteArray.mk #[100, 101, 101, 100])).2).2))).1) 1)))
                              (br ((ieq ((LinksF ((polV (roll p0)).1, (((polV (roll p0)).2).1, ())) ((RenewF ((polV (roll p0)).1, (((polV (roll p0)).2).1, ())) ((itemV (polN (roll p0)) (ByteArray.mk #[100, 101, 101, 100])).1, (2, ((itemV (polN (roll p0)) (ByteArray.mk #[100, 101, 101, 100])).2).2)) (4, (0, ())) (iadd .i64 ((LatestF ((polV (roll p0)).1, (((polV (roll p0)).2).1, ())) ((itemV (polN (roll p0)) (ByteArray.mk #[100, 101, 101, 100])).1, (2, ((itemV (polN (roll p0)) (ByteArray.mk #[100, 101, 101, 100])).2).2))).1) 1)).1)).1) (llen (((((itemV (polN (roll p0)) (ByteArray.mk #[100, 101, 101, 100])).2).2).2).1))))
                                (some (.t .bool awakeT22, []))
                                (some (.t .bool false, [])))
                              (some (.t .bool false, [])))
                            (some (.t .bool false, [])))
                          (some (.t .bool false, [])))
                        (some (.t .bool false, [])))
                      (some (.t .bool false, [])))
                    (none))
                  (none))
                (none))))
          (none)))
      (none))
def r_law22_LifetimeRenews (p0 : (List Int)) : Option (V × List VO) :=
  br ((!(light p0)))
    (some (.t .bool awakeT22, []))
    (br ((dOk (roll p0)))
      (br ((dOkS (polN (roll p0)) (ByteArray.mk #[100, 101, 101, 100])))
        (br ((polLen3 ((polV (roll p0)).1, (((polV (roll p0)).2).1, ())) (4, (0, ())) ((((itemV (polN (roll p0)) (ByteArray.mk #[100, 101, 101, 100])).2).2).1)))
          (br (((FallsF ((polV (roll p0)).1, (((polV (roll p0)).2).1, ())) (4, (0, ())) ((((itemV (polN (roll p0)) (ByteArray.mk #[100, 101, 101, 100])).2).2).1)).2).1)
            (some (.t .bool awakeT22, []))
            (br ((fineLen ((polV (roll p0)).1, (((polV (roll p0)).2).1, ())) ((itemV (polN (roll p0)) (ByteArray.mk #[100, 101, 101, 100])).1, (2, ((itemV (polN (roll p0)) (ByteArray.mk #[100, 101, 101, 100])).2).2))))
              (br ((fineLen ((polV (roll p0)).1, (((polV (roll p0)).2).1, ())) ((itemV (polN (roll p0)) (ByteArray.mk #[100, 101, 101, 100])).1, (2, ((itemV (polN (roll p0)) (ByteArray.mk #[100, 101, 101, 100])).2).2))))
                (br ((fineLen ((polV (roll p0)).1, (((polV (roll p0)).2).1, ())) ((itemV (polN (roll p0)) (ByteArray.mk #[100, 101, 101, 100])).1, (2, ((itemV (polN (roll p0)) (ByteArray.mk #[100, 101, 101, 100])).2).2))))
                  (br ((ine (((LatestF ((polV (roll p0)).1, (((polV (roll p0)).2).1, ())) ((itemV (polN (roll p0)) (ByteArray.mk #[100, 101, 101, 100])).1, (2, ((itemV (polN (roll p0)) (ByteArray.mk #[100, 101, 101, 100])).2).2))).2).2) 0))
                    (some (.t .bool false, []))
                    (br ((ine ((LinksF ((polV (roll p0)).1, (((polV (roll p0)).2).1, ())) ((itemV (polN (roll p0)) (ByteArray.mk #[100, 101, 101, 100])).1, (2, ((itemV (polN (roll p0)) (ByteArray.mk #[100, 101, 101, 100])).2).2))).2) 0))
                      (some (.t .bool false, []))
                      (br ((ilt ((LinksF ((polV (roll p0)).1, (((polV (roll p0)).2).1, ())) ((itemV (polN (roll p0)) (ByteArray.mk #[100, 101, 101, 100])).1, (2, ((itemV (polN (roll p0)) (ByteArray.mk #[100, 101, 101, 100])).2).2))).1) 1))
                        (some (.t .bool false, []))
                        (br ((igt ((LinksF ((polV (roll p0)).1, (((polV (roll p0)).2).1, ())) ((itemV (polN (roll p0)) (ByteArray.mk #[100, 101, 101, 100])).1, (2, ((itemV (polN (roll p0)) (ByteArray.mk #[100, 101, 101, 100])).2).2))).1) (llen (((((itemV (polN (roll p0)) (ByteArray.mk #[100, 101, 101, 100])).2).2).2).1))))
                          (some (.t .bool false, []))
                          (br (((LatestF ((polV (roll p0)).1, (((polV (roll p0)).2).1, ())) ((itemV (polN (roll p0)) (ByteArray.mk #[100, 101, 101, 100])).1, (2, ((itemV (polN (roll p0)) (ByteArray.mk #[100, 101, 101, 100])).2).2))).2).1)
                            (br ((ine ((LinksF ((polV (roll p0)).1, (((polV (roll p0)).2).1, ())) ((itemV (polN (roll p0)) (ByteArray.mk #[100, 101, 101, 100])).1, (2, ((itemV (polN (roll p0)) (ByteArray.mk #[100, 101, 101, 100])).2).2))).1) (llen (((((itemV (polN (roll p0)) (ByteArray.mk #[100, 101, 101, 100])).2).2).2).1))))
                              (some (.t .bool false, []))
                              (r_law22_LifetimeRenews_1 p0))
                            (r_law22_LifetimeRenews_1 p0))))))
                  (none))
                (none))
              (none)))
          (none))
        (none))
      (none))
theorem e_law22_LifetimeRenews (p0 : (List Int)) : runF g_law22_LifetimeRenews tc_law22_LifetimeRenews rv_law22_LifetimeRenews false [.t (.sl tI) p0] [] = r_law22_LifetimeRenews p0 := by kernel_rfl
theorem ok_law22_LifetimeRenews : Option.map (trC Try.prog) Try.f6.body = some tc_law22_LifetimeRenews.er := by kernel_rfl
theorem rok_law22_LifetimeRenews : trVs Try.prog Try.f6.results.toList = some (rv_law22_LifetimeRenews.map Prod.fst) := by kernel_rfl
theorem gk_law22_LifetimeRenews : GOk Try.prog g_law22_LifetimeRenews := gok_of _ (by
  intro p hp
  simp only [List.mem_cons, List.not_mem_nil, or_false] at hp
  rcases hp with rfl | rfl | rfl | rfl | rfl | rfl | rfl | rfl | rfl | rfl
  · exact ⟨en_make_Light, ms_make_Light⟩
  · exact ⟨en_law22_awake, ms_law22_awake⟩
  · exact ⟨en_make_Roll, ms_make_Roll⟩
  · exact ⟨en_make_Policy, ms_make_Policy⟩
  · exact ⟨en_make_Item, ms_make_Item⟩
  · exact ⟨en_lifetime_Links, ms_lifetime_Links⟩
  · exact ⟨en_ref18_Falls, ms_ref18_Falls⟩
  · exact ⟨en_law22_fails, ms_law22_fails⟩
  · exact ⟨en_lifetime_Renew, ms_lifetime_Renew⟩
  · exact ⟨en_lifetime_Latest, ms_lifetime_Latest⟩)
theorem lk_law22_LifetimeRenews : tc_law22_LifetimeRenews.lok g_law22_LifetimeRenews := by repeat (first | exact trivial | refine ⟨?_, ?_⟩)
theorem fails_fineR {y : Policy} {i : Item} (h : fineB y i = true) : failsF y i = failsL y i := by
  unfold failsF FailsI
  rw [h, if_pos rfl]
  simp [ieq]
theorem s_law22_LifetimeRenews (p0 : List Int) : r_law22_LifetimeRenews p0 = some (.t .bool (lawRenews p0), []) := by
  unfold r_law22_LifetimeRenews r_law22_LifetimeRenews_1
  refine br_intro (fun _ => rfl) (fun g1 => ?_)
  have hd := not_light g1
  have hN : dOk (polN (roll p0)) = true := dOk_pol hd
  rw [hd, br_true, show dOkS (polN (roll p0)) (ByteArray.mk #[100, 101, 101, 100]) = true from hN, br_true]
  have hp := pol_ok (roll p0)
  have hy : ((polV (roll p0)).1, ((polV (roll p0)).2.1, ())) = polV (roll p0) := rfl
  rw [hy]
  generalize polV (roll p0) = Y at hp ⊢
  have h3 : (itemV (polN (roll p0)) (ByteArray.mk #[100, 101, 101, 100])).2.2.2.1.length ≤ 3 := (itLk_len _).2
  have hi0 : itemOk (itemV (polN (roll p0)) (ByteArray.mk #[100, 101, 101, 100])) = true := item_ok _ named_deed
  generalize itemV (polN (roll p0)) (ByteArray.mk #[100, 101, 101, 100]) = I at h3 hi0 ⊢
  obtain ⟨J, hJ⟩ : ∃ J : Item, J = (I.1, (2, I.2.2)) := ⟨_, rfl⟩
  have eP : I.2.2.1 = J.2.2.1 := by rw [hJ]
  have eL : I.2.2.2.1 = J.2.2.2.1 := by rw [hJ]
  rw [← hJ, eP, eL]
  rw [eL] at h3
  have hi : itemOk J = true := by rw [hJ]; exact item_kind hi0 (by decide)
  have hk : J.2.1 = 2 := by rw [hJ]
  clear hJ hi0 eP eL
  have f1 : fineB Y J = true := by unfold fineB; rw [hp, hi]; rfl
  have hI := itemOk_iff.1 hi
  have l1 := len_of f1
  have hpl : polLen3 Y (4, (0, ())) J.2.2.1 = true := (pol_len hp).1
  have hv : validF (4, (0, ())) = true := by kernel_rfl
  have ef := falls_fine (u := (4, (0, ()))) (p := J.2.2.1) hp hv hI.2.2.1.1 hI.2.2.1.2
  rw [hpl, br_true, ef]
  refine br_intro (fun _ => rfl) (fun g2 => ?_)
  have g2 : (fallL (spansF Y (4, (0, ())) J.2.2.1)).2 = false := g2
  have eLk : LinksF Y J = (sgCount (lksF Y J), 0) := by unfold LinksF; rw [f1, hk]; rfl
  have eLa : (LatestF Y J).2.2 = 0 := by
    unfold LatestF
    rw [f1, hk, if_pos rfl, if_neg (show ¬ ieq 2 1 = true by simp [ieq])]
    split
    · split <;> rfl
    · rfl
  have hlk : (lksF Y J).length = J.2.2.2.1.length := by simp [lksF]
  have hc := sgCount_le (l := lksF Y J) (fun h => by rw [h] at hlk; simp at hlk; omega)
  rw [hlk] at hc
  have c1 : ilt (sgCount (lksF Y J)) 1 = false := decide_eq_false (by omega)
  have c2 : igt (sgCount (lksF Y J)) (llen J.2.2.2.1) = false := decide_eq_false (by unfold llen; omega)
  have z1 : ine 0 0 = false := rfl
  have z2 : ieq 0 0 = true := rfl
  rw [l1, eLk, eLa]
  simp only [br_true, z1, br_false, c1, c2]
  cases ho : (LatestF Y J).2.1 with
  | false => rfl
  | true =>
    obtain ⟨last, e1, e2, b0, b1, r1, r2, r3, hcase⟩ := renew_law f1 hk h3 hv g2 ho
    have c3 : ine (sgCount (lksF Y J)) (llen J.2.2.2.1) = false := by rw [e2]; simp [ine, llen]
    have rl : ∀ d, renLen Y J (4, (0, ())) d = true := fun d => l1
    have l2 := len_of r2
    simp only [c3, br_true, br_false, e1, rl, r1, l2, fails_fineR r2, r3, fails_fineR f1, Bool.not_true, z1]
    rcases hcase with ⟨q1, q2⟩ | ⟨q1, q2, q3, q4, q5, q6⟩
    · subst q2
      rw [q1]
      rfl
    · have l3 := len_of q4
      have ea : iadd .i64 last 1 = last + 1 := iadd_in (by omega)
      have es : isub .i64 (last + 1) 1 = last := by rw [isub_in (by omega)]; omega
      have eK : LinksF Y (moreL J (4, (0, ())) (last + 1)) = (sgCount (lksF Y (moreL J (4, (0, ())) (last + 1))), 0) := by unfold LinksF; rw [q4, show (moreL J (4, (0, ())) (last + 1)).2.1 = 2 from hk]; rfl
      simp only [ea, q3, l3, eK, fails_fineR q4, q5, q1, q6, es, br_true, ieq_self, Bool.not_true, br_false, z2, show ieq (J.2.2.2.1.length : Int) (llen J.2.2.2.1) = true from ieq_self _]
      rfl
def sp_law22_LifetimeRenews : Ent := spec (.pr (.sl tI) .nil) (fun x => true) (fun x => (.t .bool (lawRenews x.1)))
theorem ms_law22_LifetimeRenews : Meets Try.prog 6 (strip sp_law22_LifetimeRenews) := by
  obtain ⟨c, hc, hi⟩ := Option.map_eq_some_iff.1 ok_law22_LifetimeRenews
  exact meets_spec (R := runF g_law22_LifetimeRenews tc_law22_LifetimeRenews rv_law22_LifetimeRenews false) (meets_of (by decide) Try.func6 hc hi Try.ntmps6 rok_law22_LifetimeRenews gk_law22_LifetimeRenews lk_law22_LifetimeRenews mixed) fun x _ => (e_law22_LifetimeRenews x.1).trans (s_law22_LifetimeRenews x.1)
theorem walkLifetimeRenews (z0 : (List Int)) (W : World) (v0 : Value) (c0 : C noX W (fun _ => .no) (V.t (.sl tI) z0).d v0) (w0 : Ty.wf (.sl tI) z0) :
    Calls Try.prog 6 #[v0] W fun r w' => r = .returned (.bool true) ∧ Below W.heap.size W w' :=
  calls_true (by decide) ms_law22_LifetimeRenews (args := [.t (.sl tI) z0]) (strip_spec (x := (z0, ())) rfl (rfl)) (by simp only [V.ds, Cs]; exact ⟨_, _, rfl, c0, rfl⟩)
end Go.Proofs.Ytfehjdaielifiaa.K
