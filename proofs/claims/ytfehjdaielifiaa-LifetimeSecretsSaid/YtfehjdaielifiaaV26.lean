/-
  The law that a secret fails no later by more links.
-/
import Derived.Test.YtfehjdaielifiaaV23
import Derived.Test.YtfehjdaielifiaaP23
import Derived.Test.YtfehjdaielifiaaV25
import Derived.Test.YtfehjdaielifiaaP24
set_option linter.unusedSimpArgs false
set_option linter.unusedVariables false
namespace Go.Proofs.Ytfehjdaielifiaa.K
open Go.RowKit
noncomputable section
def d16S2 (_ : List Int) (d : Int) : Bool := decide (0 ≤ d ∧ d ≤ 65535)
def lawSecrets (_ : List Int) (_ : Int) : Bool := true
def hitB (y : Policy) (p b : Int) (x : Link) : Bool := (fallL (spansF y x.1 p)).2 && ieq (imx (fallL (spansF y x.1 p)).1 x.2.1) b
def dr_law22_LifetimeSecrets_0 : List DO := [(.mk (.mk (some 40) none (.m (.ld true 2 (.t 6)))) []), (.mk (.mk (some 41) none (.m (.ld true 5 (.t 7)))) []), (.mk (.mk (some 42) none (.m (.ld true 2 (.t 8)))) []), (.mk (.mk (some 43) none (.m (.pu (.fa 3 (.t 7))))) []), (.mk (.mk (some 44) none (.m (.ld false 1 (.t 43)))) [3]), (.mk (.mk (some 45) none (.m (.pu (.fa 3 (.t 7))))) []), (.mk (.mk (some 46) none (.m (.ld false 1 (.t 45)))) [5]), (.mk (.mk (some 47) none (.m (.pu (.len false (.t 46))))) [6]), (.mk (.mk (some 48) none (.m (.pu (.bin false .sub (.t 47) (.c (.v (.int .i64 1))))))) [7]), (.mk (.mk (some 49) none (.m (.pu (.ix 3 (.t 44) (.t 48))))) [4, 8]), (.mk (.mk (some 50) none (.m (.pu (.fa 2 (.t 49))))) [9]), (.mk (.mk (some 51) none (.m (.ld false 1 (.t 50)))) [10]), (.mk (.mk (some 52) none (.m (.pu (.bin false .add (.t 51) (.c (.v (.int .i64 1))))))) [11]), (.mk (.mk (some 53) none (.m (.pu (.mv (.t 1))))) []), (.mk (.mk (some 54) none (.m (.pu (.cv .i64 (.t 53))))) [13]), (.mk (.mk (some 55) none (.m (.pu (.bin false .rem (.t 54) (.c (.v (.int .i64 500))))))) [14]), (.mk (.mk (some 56) none (.m (.pu (.bin false .add (.t 52) (.t 55))))) [12, 15]), (.mk (.mk (some 57) none (.call 19 [(.t 40), (.t 41), (.t 42), (.t 56)])) [0, 1, 2, 16]), (.mk (.mk (some 39) none (.m (.pu (.mv (.t 57))))) [17]), (.mk (.mk (some 58) none (.m (.pu (.ext 0 (.t 39))))) [18]), (.mk (.mk (some 59) none (.m (.pu (.ext 1 (.t 39))))) [18]), (.mk (.mk (some 11) none (.m (.new [(.v (.string (ByteArray.mk #[]))), (.v (.int .i64 0)), (.v (.int .i64 0)), (.v (.slice none 0 0)), (.v (.int .i64 0))]))) []), (.mk (.mk none none (.m (.st 5 (.t 11) (.t 58)))) [21, 19, 17, 0, 1, 2, 3, 4, 5, 6, 7, 8, 9, 10, 11, 12, 13, 14, 15, 16, 17, 18, 19, 21]), (.mk (.mk (some 12) none (.m (.pu (.mv (.t 59))))) [20, 22, 0, 1, 2, 3, 4, 5, 6, 7, 8, 9, 10, 11, 12, 13, 14, 15, 16, 17, 18, 19, 20, 21, 22])]
def dr_law22_LifetimeSecrets_1 : List DO := [(.mk (.mk (some 106) none (.m (.ld true 2 (.t 6)))) []), (.mk (.mk (some 107) none (.m (.pu (.fa 3 (.t 11))))) []), (.mk (.mk (some 108) none (.m (.ld false 1 (.t 107)))) [1]), (.mk (.mk (some 109) none (.m (.pu (.mv (.t 16))))) []), (.mk (.mk (some 110) none (.m (.pu (.ix 3 (.t 108) (.t 109))))) [2, 3]), (.mk (.mk (some 111) none (.m (.pu (.fa 0 (.t 110))))) [4]), (.mk (.mk (some 112) none (.m (.ld true 2 (.t 111)))) [5]), (.mk (.mk (some 113) none (.m (.pu (.fa 2 (.t 11))))) []), (.mk (.mk (some 114) none (.m (.ld false 1 (.t 113)))) [7]), (.mk (.mk (some 115) none (.call 13 [(.t 106), (.t 112), (.t 114)])) [0, 6, 8]), (.mk (.mk (some 105) none (.m (.pu (.mv (.t 115))))) [9]), (.mk (.mk (some 116) none (.m (.pu (.ext 0 (.t 105))))) [10]), (.mk (.mk (some 117) none (.m (.pu (.ext 1 (.t 105))))) [10]), (.mk (.mk (some 118) none (.m (.pu (.ext 2 (.t 105))))) [10]), (.mk (.mk (some 17) none (.m (.pu (.mv (.t 116))))) [11, 9, 0, 1, 2, 3, 4, 5, 6, 7, 8, 9, 10, 11]), (.mk (.mk (some 18) none (.m (.pu (.mv (.t 117))))) [12, 14, 0, 1, 2, 3, 4, 5, 6, 7, 8, 9, 10, 11, 12, 14]), (.mk (.mk (some 19) none (.m (.pu (.mv (.t 118))))) [13, 15, 0, 1, 2, 3, 4, 5, 6, 7, 8, 9, 10, 11, 12, 13, 14, 15])]
def fg_law22_LifetimeSecrets_0 : Fg := ⟨[(6, none), (11, none), (13, some tI), (15, some .bool), (16, some tI)], [(6, some tyPolicy), (11, some tyItem), (27, none), (5027, none), (10027, none), (15027, none)]⟩
def tb_law22_LifetimeSecrets_0 : TC := (.sq (.sq (.reg [(.mk (some 98) none (.m (.pu (.mv (.t 16))))), (.mk (some 99) none (.m (.pu (.fa 3 (.t 11))))), (.mk (some 100) none (.m (.ld false 1 (.t 99)))), (.mk (some 101) none (.m (.pu (.len false (.t 100))))), (.mk (some 102) none (.m (.pu (.bin false .lss (.t 98) (.t 101)))))]) (.cd (.t 102) .sk (.fg ⟨[(15, some .bool)], []⟩ (.ex 0)))) (.sq (.bk 1 (.sq (.dr dr_law22_LifetimeSecrets_1 [(0, [6, 27, 5027, 10027, 15027]), (1, [11]), (2, [11]), (3, []), (4, []), (5, []), (6, []), (7, [11]), (8, [11]), (9, [6, 27, 115, 5027, 5115, 10027, 10115, 15027, 15115]), (10, []), (11, []), (12, []), (13, []), (14, []), (15, []), (16, [])] (.of [0, 1, 2, 3, 4, 5, 6, 7, 8, 9, 10, 11, 12, 13, 14, 15, 16])) (.reg [(.mk (some 119) none (.m (.pu (.mv (.t 15))))), (.mk (some 120) none (.m (.pu (.mv (.t 119))))), (.mk (some 121) (some (120, false)) (.m (.pu (.mv (.t 19))))), (.mk (some 122) (some (120, false)) (.m (.pu (.bin false .eql (.t 121) (.c (.v (.int .i64 0))))))), (.mk (some 123) (some (120, false)) (.m (.pu (.mv (.t 122))))), (.mk (some 124) (some (123, true)) (.m (.pu (.mv (.t 18))))), (.mk (some 125) (some (120, false)) (.m (.pu (.pick (.t 123) (.t 124) (.c (.v (.bool false))))))), (.mk (some 126) (some (120, false)) (.m (.pu (.mv (.t 125))))), (.mk (some 127) (some (126, true)) (.m (.pu (.mv (.t 17))))), (.mk (some 128) (some (126, true)) (.m (.pu (.fa 3 (.t 11))))), (.mk (some 129) (some (126, true)) (.m (.ld false 1 (.t 128)))), (.mk (some 130) (some (126, true)) (.m (.pu (.mv (.t 16))))), (.mk (some 131) (some (126, true)) (.m (.pu (.ix 3 (.t 129) (.t 130))))), (.mk (some 132) (some (126, true)) (.m (.pu (.fa 2 (.t 131))))), (.mk (some 133) (some (126, true)) (.m (.ld false 1 (.t 132)))), (.mk (some 134) (some (126, true)) (.m (.pu (.mx (.t 127) (.t 133))))), (.mk (some 135) (some (126, true)) (.m (.pu (.mv (.t 13))))), (.mk (some 136) (some (126, true)) (.m (.pu (.bin false .eql (.t 134) (.t 135))))), (.mk (some 137) (some (120, false)) (.m (.pu (.pick (.t 126) (.t 136) (.c (.v (.bool false))))))), (.mk (some 138) none (.m (.pu (.pick (.t 120) (.c (.v (.bool true))) (.t 137))))), (.mk (some 15) none (.m (.pu (.mv (.t 138)))))]))) (.reg [(.mk (some 103) none (.m (.pu (.mv (.t 16))))), (.mk (some 104) none (.m (.pu (.bin false .add (.t 103) (.c (.v (.int .i64 1))))))), (.mk (some 16) none (.m (.pu (.mv (.t 104)))))])))
/-- cipherplan/cipherplanlaw22.LifetimeSecrets -/
def tc_law22_LifetimeSecrets : TC := (.sq (.reg [(.mk (some 4) none (.m (.pu (.mv (.c (.v (.bool false)))))))]) (.sq (.sq (.reg [(.mk (some 20) none (.m (.pu (.mv (.t 0))))), (.mk (some 21) none (.call 7 [(.t 20)])), (.mk (some 22) none (.m (.pu (.nt (.t 21)))))]) (.cd (.t 22) (.sq (.reg [(.mk (some 23) none (.call 8 [])), (.mk (some 4) none (.m (.pu (.mv (.t 23)))))]) .rt) .sk)) (.sq (.reg [(.mk (some 24) none (.m (.pu (.mv (.t 0))))), (.mk (some 25) none (.call 9 [(.t 24)])), (.mk (some 5) none (.m (.pu (.mv (.t 25)))))]) (.sq (.reg [(.mk (some 26) none (.m (.pu (.mv (.t 5))))), (.mk (some 27) none (.call 10 [(.t 26)])), (.mk (some 28) none (.m (.pu (.mv (.t 5))))), (.mk (some 29) none (.call 11 [(.t 28), (.c (.v (.string (ByteArray.mk #[118, 97, 117, 108, 116]))))])), (.mk (some 30) none (.m (.pu (.mv (.t 5))))), (.mk (some 31) none (.call 18 [(.t 30)])), (.mk (some 6) none (.m (.new [(.v (.slice none 0 0)), (.v (.slice none 0 0))]))), (.mk (some 7) none (.m (.new [(.v (.string (ByteArray.mk #[]))), (.v (.int .i64 0)), (.v (.int .i64 0)), (.v (.slice none 0 0)), (.v (.int .i64 0))]))), (.mk (some 8) none (.m (.new [(.v (.int .i64 0)), (.v (.int .i64 0))]))), (.mk none none (.m (.st 2 (.t 6) (.t 27)))), (.mk none none (.m (.st 5 (.t 7) (.t 29)))), (.mk none none (.m (.st 2 (.t 8) (.t 31))))]) (.sq (.reg [(.mk (some 32) none (.m (.pu (.fa 1 (.t 7))))), (.mk none none (.m (.st 1 (.t 32) (.c (.v (.int .i64 1))))))]) (.sq (.reg [(.mk (some 34) none (.m (.ld true 2 (.t 6)))), (.mk (some 35) none (.m (.ld true 5 (.t 7)))), (.mk (some 36) none (.call 14 [(.t 34), (.t 35)])), (.mk (some 33) none (.m (.pu (.mv (.t 36))))), (.mk (some 37) none (.m (.pu (.ext 0 (.t 33))))), (.mk (some 38) none (.m (.pu (.ext 1 (.t 33))))), (.mk (some 9) none (.m (.pu (.mv (.t 37))))), (.mk (some 10) none (.m (.pu (.mv (.t 38)))))]) (.sq (.dr dr_law22_LifetimeSecrets_0 [(0, [6, 27, 5027, 10027, 15027]), (1, [7]), (2, [8]), (3, [7]), (4, [7]), (5, [7]), (6, [7]), (7, []), (8, []), (9, []), (10, []), (11, []), (12, []), (13, []), (14, []), (15, []), (16, []), (17, [6, 27, 57, 5027, 5057, 10027, 10057, 15027, 15057]), (18, []), (19, []), (20, []), (21, [11, 5011, 10011, 15011]), (22, [11]), (23, [])] (.one 0 (.one 1 (.one 2 (.one 3 (.one 4 (.one 5 (.one 6 (.one 7 (.one 8 (.one 9 (.one 10 (.one 11 (.one 12 (.one 13 (.one 14 (.one 15 (.one 16 (.alt 17 (.of [18, 19, 20, 21, 22, 23]) (.of [21, 17, 18, 19, 20, 22, 23])))))))))))))))))))) (.sq (.sq (.reg [(.mk (some 60) none (.m (.pu (.mv (.t 12))))), (.mk (some 61) none (.m (.pu (.bin false .neq (.t 60) (.c (.v (.int .i64 0)))))))]) (.cd (.t 61) (.sq (.reg [(.mk (some 62) none (.m (.pu (.mv (.t 12))))), (.mk (some 63) none (.m (.pu (.bin false .eql (.t 62) (.c (.v (.int .i64 13))))))), (.mk (some 64) none (.m (.pu (.mv (.t 63))))), (.mk (some 65) (some (64, true)) (.call 8 [])), (.mk (some 66) none (.m (.pu (.pick (.t 64) (.t 65) (.c (.v (.bool false))))))), (.mk (some 4) none (.m (.pu (.mv (.t 66)))))]) .rt) .sk)) (.sq (.reg [(.mk (some 68) none (.m (.ld true 2 (.t 6)))), (.mk (some 69) none (.m (.ld true 5 (.t 11)))), (.mk (some 70) none (.call 14 [(.t 68), (.t 69)])), (.mk (some 67) none (.m (.pu (.mv (.t 70))))), (.mk (some 71) none (.m (.pu (.ext 0 (.t 67))))), (.mk (some 72) none (.m (.pu (.ext 1 (.t 67))))), (.mk (some 13) none (.m (.pu (.mv (.t 71))))), (.mk (some 14) none (.m (.pu (.mv (.t 72)))))]) (.sq (.sq (.reg [(.mk (some 73) none (.m (.pu (.mv (.t 10))))), (.mk (some 74) none (.m (.pu (.mv (.t 73))))), (.mk (some 75) (some (74, true)) (.m (.pu (.mv (.t 14))))), (.mk (some 76) (some (74, true)) (.m (.pu (.nt (.t 75))))), (.mk (some 77) (some (74, true)) (.m (.pu (.mv (.t 76))))), (.mk (some 78) (some (77, false)) (.m (.pu (.mv (.t 13))))), (.mk (some 79) (some (77, false)) (.m (.pu (.mv (.t 9))))), (.mk (some 80) (some (77, false)) (.m (.pu (.bin false .gtr (.t 78) (.t 79))))), (.mk (some 81) (some (74, true)) (.m (.pu (.pick (.t 77) (.c (.v (.bool true))) (.t 80))))), (.mk (some 82) none (.m (.pu (.pick (.t 74) (.t 81) (.c (.v (.bool false))))))), (.mk (some 83) none (.m (.pu (.mv (.t 82))))), (.mk (some 84) (some (83, false)) (.m (.pu (.mv (.t 14))))), (.mk (some 85) (some (83, false)) (.m (.pu (.mv (.t 84))))), (.mk (some 86) (some (85, true)) (.m (.pu (.mv (.t 13))))), (.mk (some 87) (some (85, true)) (.m (.pu (.fa 3 (.t 7))))), (.mk (some 88) (some (85, true)) (.m (.ld false 1 (.t 87)))), (.mk (some 89) (some (85, true)) (.m (.pu (.ix 3 (.t 88) (.c (.v (.int .i64 0))))))), (.mk (some 90) (some (85, true)) (.m (.pu (.fa 2 (.t 89))))), (.mk (some 91) (some (85, true)) (.m (.ld false 1 (.t 90)))), (.mk (some 92) (some (85, true)) (.m (.pu (.bin false .lss (.t 86) (.t 91))))), (.mk (some 93) (some (83, false)) (.m (.pu (.pick (.t 85) (.t 92) (.c (.v (.bool false))))))), (.mk (some 94) none (.m (.pu (.pick (.t 83) (.c (.v (.bool true))) (.t 93)))))]) (.cd (.t 94) (.sq (.reg [(.mk (some 4) none (.m (.pu (.mv (.c (.v (.bool false)))))))]) .rt) .sk)) (.sq (.sq (.reg [(.mk (some 95) none (.m (.pu (.mv (.t 14))))), (.mk (some 96) none (.m (.pu (.nt (.t 95)))))]) (.cd (.t 96) (.sq (.reg [(.mk (some 97) none (.call 8 [])), (.mk (some 4) none (.m (.pu (.mv (.t 97)))))]) .rt) .sk)) (.sq (.reg [(.mk (some 15) none (.m (.pu (.mv (.c (.v (.bool false)))))))]) (.sq (.sq (.reg [(.mk (some 16) none (.m (.pu (.mv (.c (.v (.int .i64 0)))))))]) (.bk 0 (.lp 0 fg_law22_LifetimeSecrets_0 tb_law22_LifetimeSecrets_0))) (.sq (.reg [(.mk (some 139) none (.m (.pu (.mv (.t 15))))), (.mk (some 140) none (.m (.pu (.mv (.t 139))))), (.mk (some 141) (some (140, true)) (.call 8 [])), (.mk (some 142) none (.m (.pu (.pick (.t 140) (.t 141) (.c (.v (.bool false))))))), (.mk (some 4) none (.m (.pu (.mv (.t 142)))))]) .rt))))))))))))))
def rv_law22_LifetimeSecrets : List (RV × Option Ty) := [((.t 4), some .bool)]
abbrev sh_law22_LifetimeSecrets_0 : Sh := ⟨[(6, .ptr 6 0), (11, .ptr 11 0), (13, .ty tI), (15, .ty .bool), (16, .ty tI)], [(6, .box tyPolicy), (11, .box tyItem), (27, .no), (5027, .no), (10027, .no), (15027, .no)]⟩
def st_law22_LifetimeSecrets_0 (x13 : Int) (x15 : Bool) (x16 : Int) (y6 : Policy) (y11 : Item) : VS := sh_law22_LifetimeSecrets_0.st ((), (), x13, x15, x16, ()) (y6, y11, (), (), (), (), ())
abbrev sh_law22_LifetimeSecrets_0_e0 : Sh := ⟨[(15, .ty .bool)], []⟩
def st_law22_LifetimeSecrets_0_e0 (x15 : Bool) : VS := sh_law22_LifetimeSecrets_0_e0.st (x15, ()) ()
-- loop 0: (x13 : Int) (x15 : Bool) (x16 : Int) (y6 : Policy) (y11 : Item); out: ('exit', 0) (x15 : Bool)
def L_law22_LifetimeSecrets_0 : VS → Option (Bool × List (Bool × Exit × VS)) := mkL sh_law22_LifetimeSecrets_0 (fun x y => (fineB y.1 y.2.1 && decide (0 ≤ x.2.2.2.2.1 ∧ x.2.2.2.2.1 ≤ y.2.1.2.2.2.1.length))) (fun x y => [(true, .exit 0, st_law22_LifetimeSecrets_0_e0 (x.2.2.2.1 || (y.2.1.2.2.2.1.drop x.2.2.2.2.1.toNat).any (hitB y.1 y.2.1.2.2.1 x.2.2.1)))])
def g_law22_LifetimeSecrets : G := ⟨TYs, [], 143, EL [(7, sp_make_Light), (8, sp_law22_awake), (9, sp_make_Roll), (10, sp_make_Policy), (11, sp_make_Item), (13, sp_ref18_Falls), (14, sp_law22_fails), (18, sp_make_Use), (19, sp_lifetime_Renew)], keeps, (Ls [L_law22_LifetimeSecrets_0]), IL [], RL []⟩
def b_law22_LifetimeSecrets_0 (x13 : Int) (x15 : Bool) (x16 : Int) (y6 : Policy) (y11 : Item) : Option (Exit × VS) :=
  br ((ilt x16 (llen y11.2.2.2.1)))
    (br (cIx y11.2.2.2.1 x16)
      (br ((polLen3 y6 ((lgt tyLink y11.2.2.2.1 (Int.toNat x16)).1) y11.2.2.1))
        (br (x15)
          (some (.normal, st_law22_LifetimeSecrets_0 x13 true (iadd .i64 x16 1) y6 y11))
          (br ((ieq (((FallsF y6 ((lgt tyLink y11.2.2.2.1 (Int.toNat x16)).1) y11.2.2.1).2).2) 0))
            (br (((FallsF y6 ((lgt tyLink y11.2.2.2.1 (Int.toNat x16)).1) y11.2.2.1).2).1)
              (br (cIx y11.2.2.2.1 x16)
                (some (.normal, st_law22_LifetimeSecrets_0 x13 (ieq (imx ((FallsF y6 ((lgt tyLink y11.2.2.2.1 (Int.toNat x16)).1) y11.2.2.1).1) (((lgt tyLink y11.2.2.2.1 (Int.toNat x16)).2).1)) x13) (iadd .i64 x16 1) y6 y11))
                (none))
              (some (.normal, st_law22_LifetimeSecrets_0 x13 false (iadd .i64 x16 1) y6 y11)))
            (some (.normal, st_law22_LifetimeSecrets_0 x13 false (iadd .i64 x16 1) y6 y11))))
        (none))
      (none))
    (some (.exit 0, st_law22_LifetimeSecrets_0_e0 x15))
noncomputable def lp_law22_LifetimeSecrets_0 (x13 : Int) (x15 : Bool) (x16 : Int) (y6 : Policy) (y11 : Item) : Option (Exit × VS) := loopF (roundF g_law22_LifetimeSecrets fg_law22_LifetimeSecrets_0 tb_law22_LifetimeSecrets_0) (st_law22_LifetimeSecrets_0 x13 x15 x16 y6 y11)
noncomputable def n_law22_LifetimeSecrets_0 (x13 : Int) (x15 : Bool) (x16 : Int) (y6 : Policy) (y11 : Item) : Option (Exit × VS) :=
  br ((ilt x16 (llen y11.2.2.2.1)))
    (br (cIx y11.2.2.2.1 x16)
      (br ((polLen3 y6 ((lgt tyLink y11.2.2.2.1 (Int.toNat x16)).1) y11.2.2.1))
        (br (x15)
          (lp_law22_LifetimeSecrets_0 x13 true (iadd .i64 x16 1) y6 y11)
          (br ((ieq (((FallsF y6 ((lgt tyLink y11.2.2.2.1 (Int.toNat x16)).1) y11.2.2.1).2).2) 0))
            (br (((FallsF y6 ((lgt tyLink y11.2.2.2.1 (Int.toNat x16)).1) y11.2.2.1).2).1)
              (br (cIx y11.2.2.2.1 x16)
                (lp_law22_LifetimeSecrets_0 x13 (ieq (imx ((FallsF y6 ((lgt tyLink y11.2.2.2.1 (Int.toNat x16)).1) y11.2.2.1).1) (((lgt tyLink y11.2.2.2.1 (Int.toNat x16)).2).1)) x13) (iadd .i64 x16 1) y6 y11)
                (none))
              (lp_law22_LifetimeSecrets_0 x13 false (iadd .i64 x16 1) y6 y11))
            (lp_law22_LifetimeSecrets_0 x13 false (iadd .i64 x16 1) y6 y11)))
        (none))
      (none))
    (some (.exit 0, st_law22_LifetimeSecrets_0_e0 x15))
def la_law22_LifetimeSecrets_0 (x13 : Int) (x15 : Bool) (x16 : Int) (y6 : Policy) (y11 : Item) : Option (Exit × VS) := some (.exit 0, st_law22_LifetimeSecrets_0_e0 (x15 || (y11.2.2.2.1.drop x16.toNat).any (hitB y6 y11.2.2.1 x13)))
theorem be_law22_LifetimeSecrets_0 (x13 : Int) (x15 : Bool) (x16 : Int) (y6 : Policy) (y11 : Item) : roundF g_law22_LifetimeSecrets fg_law22_LifetimeSecrets_0 tb_law22_LifetimeSecrets_0 (st_law22_LifetimeSecrets_0 x13 x15 x16 y6 y11) = b_law22_LifetimeSecrets_0 x13 x15 x16 y6 y11 := by kernel_rfl
theorem ln_law22_LifetimeSecrets_0 (x13 : Int) (x15 : Bool) (x16 : Int) (y6 : Policy) (y11 : Item) : lp_law22_LifetimeSecrets_0 x13 x15 x16 y6 y11 = n_law22_LifetimeSecrets_0 x13 x15 x16 y6 y11 := (loopF_nxt _ _).trans (by
  rw [be_law22_LifetimeSecrets_0]
  simp only [b_law22_LifetimeSecrets_0, n_law22_LifetimeSecrets_0, nxt_br, nxt_n, nxt_r, nxt_e, nxt_0]
  rfl)
def r_law22_LifetimeSecrets_3 (p0 : (List Int)) (p1 : Int) : Option (V × List VO) :=
  br ((!((failsF ((polV (roll p0)).1, (((polV (roll p0)).2).1, ())) ((RenewF ((polV (roll p0)).1, (((polV (roll p0)).2).1, ())) ((itemV (polN (roll p0)) (ByteArray.mk #[118, 97, 117, 108, 116])).1, (1, ((itemV (polN (roll p0)) (ByteArray.mk #[118, 97, 117, 108, 116])).2).2)) (useV (itemN (polN (roll p0)) (ByteArray.mk #[118, 97, 117, 108, 116]))) (iadd .i64 (iadd .i64 (((lgt tyLink (((((itemV (polN (roll p0)) (ByteArray.mk #[118, 97, 117, 108, 116])).2).2).2).1) (Int.toNat (isub .i64 (llen (((((itemV (polN (roll p0)) (ByteArray.mk #[118, 97, 117, 108, 116])).2).2).2).1)) 1))).2).1) 1) (irem (icv .i64 p1) 500))).1)).2)))
    (some (.t .bool awakeT22, []))
    (br ((fineB ((polV (roll p0)).1, (((polV (roll p0)).2).1, ())) ((RenewF ((polV (roll p0)).1, (((polV (roll p0)).2).1, ())) ((itemV (polN (roll p0)) (ByteArray.mk #[118, 97, 117, 108, 116])).1, (1, ((itemV (polN (roll p0)) (ByteArray.mk #[118, 97, 117, 108, 116])).2).2)) (useV (itemN (polN (roll p0)) (ByteArray.mk #[118, 97, 117, 108, 116]))) (iadd .i64 (iadd .i64 (((lgt tyLink (((((itemV (polN (roll p0)) (ByteArray.mk #[118, 97, 117, 108, 116])).2).2).2).1) (Int.toNat (isub .i64 (llen (((((itemV (polN (roll p0)) (ByteArray.mk #[118, 97, 117, 108, 116])).2).2).2).1)) 1))).2).1) 1) (irem (icv .i64 p1) 500))).1) && decide (0 ≤ (0 : Int) ∧ (0 : Int) ≤ ((RenewF ((polV (roll p0)).1, (((polV (roll p0)).2).1, ())) ((itemV (polN (roll p0)) (ByteArray.mk #[118, 97, 117, 108, 116])).1, (1, ((itemV (polN (roll p0)) (ByteArray.mk #[118, 97, 117, 108, 116])).2).2)) (useV (itemN (polN (roll p0)) (ByteArray.mk #[118, 97, 117, 108, 116]))) (iadd .i64 (iadd .i64 (((lgt tyLink (((((itemV (polN (roll p0)) (ByteArray.mk #[118, 97, 117, 108, 116])).2).2).2).1) (Int.toNat (isub .i64 (llen (((((itemV (polN (roll p0)) (ByteArray.mk #[118, 97, 117, 108, 116])).2).2).2).1)) 1))).2).1) 1) (irem (icv .i64 p1) 500))).1).2.2.2.1.length)))
      (br ((false || (((RenewF ((polV (roll p0)).1, (((polV (roll p0)).2).1, ())) ((itemV (polN (roll p0)) (ByteArray.mk #[118, 97, 117, 108, 116])).1, (1, ((itemV (polN (roll p0)) (ByteArray.mk #[118, 97, 117, 108, 116])).2).2)) (useV (itemN (polN (roll p0)) (ByteArray.mk #[118, 97, 117, 108, 116]))) (iadd .i64 (iadd .i64 (((lgt tyLink (((((itemV (polN (roll p0)) (ByteArray.mk #[118, 97, 117, 108, 116])).2).2).2).1) (Int.toNat (isub .i64 (llen (((((itemV (polN (roll p0)) (ByteArray.mk #[118, 97, 117, 108, 116])).2).2).2).1)) 1))).2).1) 1) (irem (icv .i64 p1) 500))).1).2.2.2.1.drop (0 : Int).toNat).any (hitB ((polV (roll p0)).1, (((polV (roll p0)).2).1, ())) ((RenewF ((polV (roll p0)).1, (((polV (roll p0)).2).1, ())) ((itemV (polN (roll p0)) (ByteArray.mk #[118, 97, 117, 108, 116])).1, (1, ((itemV (polN (roll p0)) (ByteArray.mk #[118, 97, 117, 108, 116])).2).2)) (useV (itemN (polN (roll p0)) (ByteArray.mk #[118, 97, 117, 108, 116]))) (iadd .i64 (iadd .i64 (((lgt tyLink (((((itemV (polN (roll p0)) (ByteArray.mk #[118, 97, 117, 108, 116])).2).2).2).1) (Int.toNat (isub .i64 (llen (((((itemV (polN (roll p0)) (ByteArray.mk #[118, 97, 117, 108, 116])).2).2).2).1)) 1))).2).1) 1) (irem (icv .i64 p1) 500))).1).2.2.1 ((failsF ((polV (roll p0)).1, (((polV (roll p0)).2).1, ())) ((RenewF ((polV (roll p0)).1, (((polV (roll p0)).2).1, ())) ((itemV (polN (roll p0)) (ByteArray.mk #[118, 97, 117, 108, 116])).1, (1, ((itemV (polN (roll p0)) (ByteArray.mk #[118, 97, 117, 108, 116])).2).2)) (useV (itemN (polN (roll p0)) (ByteArray.mk #[118, 97, 117, 108, 116]))) (iadd .i64 (iadd .i64 (((lgt tyLink (((((itemV (polN (roll p0)) (ByteArray.mk #[118, 97, 117, 108, 116])).2).2).2).1) (Int.toNat (isub .i64 (llen (((((itemV (polN (roll p0)) (ByteArray.mk #[118, 97, 117, 108, 116])).2).2).2).1)) 1))).2).1) 1) (irem (icv .i64 p1) 500))).1)).1))))
        (some (.t .bool awakeT22, []))
        (some (.t .bool false, [])))
      (none))
def r_law22_LifetimeSecrets_2 (p0 : (List Int)) (p1 : Int) : Option (V × List VO) :=
  br ((failsF ((polV (roll p0)).1, (((polV (roll p0)).2).1, ())) ((RenewF ((polV (roll p0)).1, (((polV (roll p0)).2).1, ())) ((itemV (polN (roll p0)) (ByteArray.mk #[118, 97, 117, 108, 116])).1, (1, ((itemV (polN (roll p0)) (ByteArray.mk #[118, 97, 117, 108, 116])).2).2)) (useV (itemN (polN (roll p0)) (ByteArray.mk #[118, 97, 117, 108, 116]))) (iadd .i64 (iadd .i64 (((lgt tyLink (((((itemV (polN (roll p0)) (ByteArray.mk #[118, 97, 117, 108, 116])).2).2).2).1) (Int.toNat (isub .i64 (llen (((((itemV (polN (roll p0)) (ByteArray.mk #[118, 97, 117, 108, 116])).2).2).2).1)) 1))).2).1) 1) (irem (icv .i64 p1) 500))).1)).2)
    (br (cIx (((((itemV (polN (roll p0)) (ByteArray.mk #[118, 97, 117, 108, 116])).2).2).2).1) 0)
      (br ((ilt ((failsF ((polV (roll p0)).1, (((polV (roll p0)).2).1, ())) ((RenewF ((polV (roll p0)).1, (((polV (roll p0)).2).1, ())) ((itemV (polN (roll p0)) (ByteArray.mk #[118, 97, 117, 108, 116])).1, (1, ((itemV (polN (roll p0)) (ByteArray.mk #[118, 97, 117, 108, 116])).2).2)) (useV (itemN (polN (roll p0)) (ByteArray.mk #[118, 97, 117, 108, 116]))) (iadd .i64 (iadd .i64 (((lgt tyLink (((((itemV (polN (roll p0)) (ByteArray.mk #[118, 97, 117, 108, 116])).2).2).2).1) (Int.toNat (isub .i64 (llen (((((itemV (polN (roll p0)) (ByteArray.mk #[118, 97, 117, 108, 116])).2).2).2).1)) 1))).2).1) 1) (irem (icv .i64 p1) 500))).1)).1) (((lgt tyLink (((((itemV (polN (roll p0)) (ByteArray.mk #[118, 97, 117, 108, 116])).2).2).2).1) (Int.toNat 0)).2).1)))
        (some (.t .bool false, []))
        (r_law22_LifetimeSecrets_3 p0 p1))
      (none))
    (r_law22_LifetimeSecrets_3 p0 p1)
def r_law22_LifetimeSecrets_1 (p0 : (List Int)) (p1 : Int) : Option (V × List VO) :=
  br ((renLen ((polV (roll p0)).1, (((polV (roll p0)).2).1, ())) ((itemV (polN (roll p0)) (ByteArray.mk #[118, 97, 117, 108, 116])).1, (1, ((itemV (polN (roll p0)) (ByteArray.mk #[118, 97, 117, 108, 116])).2).2)) (useV (itemN (polN (roll p0)) (ByteArray.mk #[118, 97, 117, 108, 116]))) (iadd .i64 (iadd .i64 (((lgt tyLink (((((itemV (polN (roll p0)) (ByteArray.mk #[118, 97, 117, 108, 116])).2).2).2).1) (Int.toNat (isub .i64 (llen (((((itemV (polN (roll p0)) (ByteArray.mk #[118, 97, 117, 108, 116])).2).2).2).1)) 1))).2).1) 1) (irem (icv .i64 p1) 500))))
    (br ((ine ((RenewF ((polV (roll p0)).1, (((polV (roll p0)).2).1, ())) ((itemV (polN (roll p0)) (ByteArray.mk #[118, 97, 117, 108, 116])).1, (1, ((itemV (polN (roll p0)) (ByteArray.mk #[118, 97, 117, 108, 116])).2).2)) (useV (itemN (polN (roll p0)) (ByteArray.mk #[118, 97, 117, 108, 116]))) (iadd .i64 (iadd .i64 (((lgt tyLink (((((itemV (polN (roll p0)) (ByteArray.mk #[118, 97, 117, 108, 116])).2).2).2).1) (Int.toNat (isub .i64 (llen (((((itemV (polN (roll p0)) (ByteArray.mk #[118, 97, 117, 108, 116])).2).2).2).1)) 1))).2).1) 1) (irem (icv .i64 p1) 500))).2) 0))
      (br ((ieq ((RenewF ((polV (roll p0)).1, (((polV (roll p0)).2).1, ())) ((itemV (polN (roll p0)) (ByteArray.mk #[118, 97, 117, 108, 116])).1, (1, ((itemV (polN (roll p0)) (ByteArray.mk #[118, 97, 117, 108, 116])).2).2)) (useV (itemN (polN (roll p0)) (ByteArray.mk #[118, 97, 117, 108, 116]))) (iadd .i64 (iadd .i64 (((lgt tyLink (((((itemV (polN (roll p0)) (ByteArray.mk #[118, 97, 117, 108, 116])).2).2).2).1) (Int.toNat (isub .i64 (llen (((((itemV (polN (roll p0)) (ByteArray.mk #[118, 97, 117, 108, 116])).2).2).2).1)) 1))).2).1) 1) (irem (icv .i64 p1) 500))).2) 13))
        (some (.t .bool awakeT22, []))
        (some (.t .bool false, [])))
      (br ((fineLen ((polV (roll p0)).1, (((polV (roll p0)).2).1, ())) ((RenewF ((polV (roll p0)).1, (((polV (roll p0)).2).1, ())) ((itemV (polN (roll p0)) (ByteArray.mk #[118, 97, 117, 108, 116])).1, (1, ((itemV (polN (roll p0)) (ByteArray.mk #[118, 97, 117, 108, 116])).2).2)) (useV (itemN (polN (roll p0)) (ByteArray.mk #[118, 97, 117, 108, 116]))) (iadd .i64 (iadd .i64 (((lgt tyLink (((((itemV (polN (roll p0)) (ByteArray.mk #[118, 97, 117, 108, 116])).2).2).2).1) (Int.toNat (isub .i64 (llen (((((itemV (polN (roll p0)) (ByteArray.mk #[118, 97, 117, 108, 116])).2).2).2).1)) 1))).2).1) 1) (irem (icv .i64 p1) 500))).1)))
        (br ((failsF ((polV (roll p0)).1, (((polV (roll p0)).2).1, ())) ((itemV (polN (roll p0)) (ByteArray.mk #[118, 97, 117, 108, 116])).1, (1, ((itemV (polN (roll p0)) (ByteArray.mk #[118, 97, 117, 108, 116])).2).2))).2)
          (br ((!((failsF ((polV (roll p0)).1, (((polV (roll p0)).2).1, ())) ((RenewF ((polV (roll p0)).1, (((polV (roll p0)).2).1, ())) ((itemV (polN (roll p0)) (ByteArray.mk #[118, 97, 117, 108, 116])).1, (1, ((itemV (polN (roll p0)) (ByteArray.mk #[118, 97, 117, 108, 116])).2).2)) (useV (itemN (polN (roll p0)) (ByteArray.mk #[118, 97, 117, 108, 116]))) (iadd .i64 (iadd .i64 (((lgt tyLink (((((itemV (polN (roll p0)) (ByteArray.mk #[118, 97, 117, 108, 116])).2).2).2).1) (Int.toNat (isub .i64 (llen (((((itemV (polN (roll p0)) (ByteArray.mk #[118, 97, 117, 108, 116])).2).2).2).1)) 1))).2).1) 1) (irem (icv .i64 p1) 500))).1)).2)))
            (some (.t .bool false, []))
            (br ((igt ((failsF ((polV (roll p0)).1, (((polV (roll p0)).2).1, ())) ((RenewF ((polV (roll p0)).1, (((polV (roll p0)).2).1, ())) ((itemV (polN (roll p0)) (ByteArray.mk #[118, 97, 117, 108, 116])).1, (1, ((itemV (polN (roll p0)) (ByteArray.mk #[118, 97, 117, 108, 116])).2).2)) (useV (itemN (polN (roll p0)) (ByteArray.mk #[118, 97, 117, 108, 116]))) (iadd .i64 (iadd .i64 (((lgt tyLink (((((itemV (polN (roll p0)) (ByteArray.mk #[118, 97, 117, 108, 116])).2).2).2).1) (Int.toNat (isub .i64 (llen (((((itemV (polN (roll p0)) (ByteArray.mk #[118, 97, 117, 108, 116])).2).2).2).1)) 1))).2).1) 1) (irem (icv .i64 p1) 500))).1)).1) ((failsF ((polV (roll p0)).1, (((polV (roll p0)).2).1, ())) ((itemV (polN (roll p0)) (ByteArray.mk #[118, 97, 117, 108, 116])).1, (1, ((itemV (polN (roll p0)) (ByteArray.mk #[118, 97, 117, 108, 116])).2).2))).1)))
              (some (.t .bool false, []))
              (r_law22_LifetimeSecrets_2 p0 p1)))
          (r_law22_LifetimeSecrets_2 p0 p1))
        (none)))
    (none)
def r_law22_LifetimeSecrets (p0 : (List Int)) (p1 : Int) : Option (V × List VO) :=
  br ((!(light p0)))
    (some (.t .bool awakeT22, []))
    (br ((dOk (roll p0)))
      (br ((dOkS (polN (roll p0)) (ByteArray.mk #[118, 97, 117, 108, 116])))
        (br ((dOk (itemN (polN (roll p0)) (ByteArray.mk #[118, 97, 117, 108, 116]))))
          (br ((fineLen ((polV (roll p0)).1, (((polV (roll p0)).2).1, ())) ((itemV (polN (roll p0)) (ByteArray.mk #[118, 97, 117, 108, 116])).1, (1, ((itemV (polN (roll p0)) (ByteArray.mk #[118, 97, 117, 108, 116])).2).2))))
            (br (cIx (((((itemV (polN (roll p0)) (ByteArray.mk #[118, 97, 117, 108, 116])).2).2).2).1) (isub .i64 (llen (((((itemV (polN (roll p0)) (ByteArray.mk #[118, 97, 117, 108, 116])).2).2).2).1)) 1))
              (br (cNz 500)
                (frk
                  (r_law22_LifetimeSecrets_1 p0 p1)
                  (r_law22_LifetimeSecrets_1 p0 p1))
                (none))
              (none))
            (none))
          (none))
        (none))
      (none))
theorem e_law22_LifetimeSecrets (p0 : (List Int)) (p1 : Int) : runF g_law22_LifetimeSecrets tc_law22_LifetimeSecrets rv_law22_LifetimeSecrets false [.t (.sl tI) p0, .t (.int .u16) p1] [] = r_law22_LifetimeSecrets p0 p1 := by kernel_rfl
theorem ok_law22_LifetimeSecrets : Option.map (trC Try.prog) Try.f5.body = some tc_law22_LifetimeSecrets.er := by kernel_rfl
theorem rok_law22_LifetimeSecrets : trVs Try.prog Try.f5.results.toList = some (rv_law22_LifetimeSecrets.map Prod.fst) := by kernel_rfl
theorem gk_law22_LifetimeSecrets : GOk Try.prog g_law22_LifetimeSecrets := gok_of _ (by
  intro p hp
  simp only [List.mem_cons, List.not_mem_nil, or_false] at hp
  rcases hp with rfl | rfl | rfl | rfl | rfl | rfl | rfl | rfl | rfl
  · exact ⟨en_make_Light, ms_make_Light⟩
  · exact ⟨en_law22_awake, ms_law22_awake⟩
  · exact ⟨en_make_Roll, ms_make_Roll⟩
  · exact ⟨en_make_Policy, ms_make_Policy⟩
  · exact ⟨en_make_Item, ms_make_Item⟩
  · exact ⟨en_ref18_Falls, ms_ref18_Falls⟩
  · exact ⟨en_law22_fails, ms_law22_fails⟩
  · exact ⟨en_make_Use, ms_make_Use⟩
  · exact ⟨en_lifetime_Renew, ms_lifetime_Renew⟩)
theorem l_law22_LifetimeSecrets_0 (x13 : Int) (x15 : Bool) (x16 : Int) (y6 : Policy) (y11 : Item) (h : (fineB y6 y11 && decide (0 ≤ x16 ∧ x16 ≤ y11.2.2.2.1.length)) = true) : lp_law22_LifetimeSecrets_0 x13 x15 x16 y6 y11 = la_law22_LifetimeSecrets_0 x13 x15 x16 y6 y11 := by
  simp only [Bool.and_eq_true, decide_eq_true_eq] at h
  obtain ⟨hf, h1, h2⟩ := h
  have hf2 := hf
  simp only [fineB, Bool.and_eq_true] at hf2
  have hi := itemOk_iff.1 hf2.2
  have hpl : ∀ u q, polLen3 y6 u q = true := fun u q => (pol_len hf2.1).1
  obtain ⟨k, rfl⟩ := Int.eq_ofNat_of_zero_le h1
  clear h1
  revert x15
  refine range_ind y11.2.2.2.1 (fun k => ∀ x15 : Bool, lp_law22_LifetimeSecrets_0 x13 x15 (k : Int) y6 y11 = la_law22_LifetimeSecrets_0 x13 x15 (k : Int) y6 y11) ?_ ?_ k (by omega)
  · intro x15
    rw [ln_law22_LifetimeSecrets_0]
    simp [n_law22_LifetimeSecrets_0, la_law22_LifetimeSecrets_0, ilt_nat, llen, br_false]
  · intro k hk ih x15
    rw [ln_law22_LifetimeSecrets_0]
    have hv := linksB_all hi.2.2.2.2.1 y11.2.2.2.1[k] (List.getElem_mem hk)
    have ef := falls_fine (u := y11.2.2.2.1[k].1) (p := y11.2.2.1) hf2.1 hv.1 hi.2.2.1.1 hi.2.2.1.2
    have el : la_law22_LifetimeSecrets_0 x13 x15 (k : Int) y6 y11 = la_law22_LifetimeSecrets_0 x13 (x15 || hitB y6 y11.2.2.1 x13 y11.2.2.2.1[k]) ((k + 1 : Nat) : Int) y6 y11 := by
      simp only [la_law22_LifetimeSecrets_0, Int.toNat_natCast, List.drop_eq_getElem_cons hk, List.any_cons, Bool.or_assoc]
    rw [el]
    simp only [n_law22_LifetimeSecrets_0, ilt_nat, llen, cIx_nat, hk, decide_true, br_true, Int.toNat_natCast, add1 (show k < 4611686018427387904 by omega), lgt_get (y := tyLink) hk, hpl, ef, ih, ieq_self]
    unfold hitB
    cases x15 with
    | true => rfl
    | false => cases (fallL (spansF y6 y11.2.2.2.1[k].1 y11.2.2.1)).2 <;> rfl
theorem lo_law22_LifetimeSecrets_0 : ∀ S l p, g_law22_LifetimeSecrets.L 0 (fgt fg_law22_LifetimeSecrets_0 S) = some (true, l) → pickA l = some p → loopF (roundF g_law22_LifetimeSecrets fg_law22_LifetimeSecrets_0 tb_law22_LifetimeSecrets_0) S = some p :=
  lok_of (s := sh_law22_LifetimeSecrets_0) ⟨by decide, by decide⟩ (by kernel_rfl) fun x y hok p hp => by
  simp only [pickA_br, pickA_one] at hp
  exact (l_law22_LifetimeSecrets_0 x.2.2.1 x.2.2.2.1 x.2.2.2.2.1 y.1 y.2.1 (by simpa using hok)).trans hp
theorem lk_law22_LifetimeSecrets : tc_law22_LifetimeSecrets.lok g_law22_LifetimeSecrets := by
  repeat (first | exact trivial | exact lo_law22_LifetimeSecrets_0 | refine ⟨?_, ?_⟩)
theorem fails_fineS {y : Policy} {i : Item} (h : fineB y i = true) : failsF y i = failsL y i := by
  unfold failsF FailsI
  rw [h, if_pos rfl]
  simp [ieq]
theorem first_day {i : Item} (hi : itemOk i = true) {z : Link} (hz : z ∈ i.2.2.2.1) : (lgt tyLink i.2.2.2.1 (Int.toNat 0)).2.1 ≤ z.2.1 := by
  have hI := itemOk_iff.1 hi
  have ha := (linksB_asc hI.2.2.2.2.1).1
  cases hq : i.2.2.2.1 with
  | nil => rw [hq] at hz; cases hz
  | cons a r =>
    rw [hq] at hz ha
    have e : lgt tyLink (a :: r) (Int.toNat 0) = a := rfl
    rw [e]
    rcases List.mem_cons.1 hz with rfl | hz
    · exact Int.le_refl _
    · exact Int.le_of_lt ((List.pairwise_cons.1 ha).1 z hz)
theorem first_more {i : Item} {u : Keep} {day : Int} (h : 1 ≤ i.2.2.2.1.length) : lgt tyLink (moreL i u day).2.2.2.1 (Int.toNat 0) = lgt tyLink i.2.2.2.1 (Int.toNat 0) := by
  show lgt tyLink (i.2.2.2.1 ++ [(u, (day, ()))]) _ = _
  cases hq : i.2.2.2.1 with
  | nil => rw [hq] at h; simp at h
  | cons a r => rfl
theorem secrets_law {y : Policy} {i : Item} {u : Keep} {day : Int} (hf : fineB y i = true) (hk : i.2.1 = 1) (h3 : i.2.2.2.1.length ≤ 3) (hu : validF u = true) (hd : lastDay i < day) :
    (RenewF y i u day).2 = 13 ∨ (RenewF y i u day = (moreL i u day, 0) ∧ fineB y (moreL i u day) = true ∧ ((failsL y i).2 = true → (failsL y (moreL i u day)).2 = true ∧ (failsL y (moreL i u day)).1 ≤ (failsL y i).1) ∧
      ((failsL y (moreL i u day)).2 = true → (lgt tyLink i.2.2.2.1 (Int.toNat 0)).2.1 ≤ (failsL y (moreL i u day)).1 ∧ (moreL i u day).2.2.2.1.any (hitB y (moreL i u day).2.2.1 (failsL y (moreL i u day)).1) = true)) := by
  have hf2 := hf
  simp only [fineB, Bool.and_eq_true] at hf2
  have hI := itemOk_iff.1 hf2.2
  by_cases h4 : day ≤ 40000
  · right
    obtain ⟨r1, r2⟩ := ren_ok hf hu hd h4 (by omega)
    have r3 := r2
    simp only [fineB, Bool.and_eq_true] at r3
    have e1 : failsL y i = secFails (lksF y i) := by unfold failsL; rw [hk]; rfl
    have e2 : failsL y (moreL i u day) = secFails (lksF y (moreL i u day)) := by unfold failsL; rw [show (moreL i u day).2.1 = 1 from hk]; rfl
    refine ⟨r1, r2, fun hw => ?_, fun hw => ?_⟩
    · rw [e1] at hw ⊢
      rw [e2, lks_more]
      obtain ⟨x, hx, q1, q2⟩ := sec_at hw
      have := sec_le (l := lksF y i ++ [lkF y i.2.2.1 (u, (day, ()))]) (List.mem_append_left _ hx) q1
      exact ⟨this.1, by omega⟩
    · rw [e2] at hw ⊢
      obtain ⟨x, hx, q1, q2⟩ := sec_at hw
      obtain ⟨z, hz, rfl⟩ := List.mem_map.1 hx
      have q3 := first_day r3.2 hz
      rw [first_more hI.2.2.2.1.1] at q3
      have q4 : (goneV (lkF y (moreL i u day).2.2.1 z)).1 = max z.2.1 (fallL (spansF y z.1 (moreL i u day).2.2.1)).1 := gone_eq _
      rw [← q2]
      refine ⟨by rw [q4]; exact Int.le_trans q3 (Int.le_max_left _ _), List.any_eq_true.2 ⟨z, hz, ?_⟩⟩
      unfold hitB
      rw [show (fallL (spansF y z.1 (moreL i u day).2.2.1)).2 = true from q1, Bool.true_and, q4]
      simp only [ieq_dec, decide_eq_true_eq, imx]
      split <;> omega
  · left
    have e : renE y i u day = 13 := by
      unfold renE
      rw [if_neg (by rw [hf]; simp), if_neg (by rw [hu]; simp), if_pos (.inr (by omega))]
    unfold RenewF
    rw [if_neg (by rw [e]; omega)]
    exact e
theorem s_law22_LifetimeSecrets (p0 : List Int) (p1 : Int) (h : d16S2 p0 p1 = true) : r_law22_LifetimeSecrets p0 p1 = some (.t .bool (lawSecrets p0 p1), []) := by
  simp only [d16S2, decide_eq_true_eq] at h
  simp only [r_law22_LifetimeSecrets, r_law22_LifetimeSecrets_1, r_law22_LifetimeSecrets_2, r_law22_LifetimeSecrets_3, frk_self]
  refine br_intro (fun _ => rfl) (fun g1 => ?_)
  have hd := not_light g1
  have hN : dOk (polN (roll p0)) = true := dOk_pol hd
  have hE : dOk (itemN (polN (roll p0)) (ByteArray.mk #[118, 97, 117, 108, 116])) = true := dOk_item hN
  rw [hd, br_true, show dOkS (polN (roll p0)) (ByteArray.mk #[118, 97, 117, 108, 116]) = true from hN, br_true, hE, br_true]
  have hp := pol_ok (roll p0)
  have hy : ((polV (roll p0)).1, ((polV (roll p0)).2.1, ())) = polV (roll p0) := rfl
  rw [hy]
  generalize polV (roll p0) = Y at hp ⊢
  have h3 : (itemV (polN (roll p0)) (ByteArray.mk #[118, 97, 117, 108, 116])).2.2.2.1.length ≤ 3 := (itLk_len _).2
  have hi0 : itemOk (itemV (polN (roll p0)) (ByteArray.mk #[118, 97, 117, 108, 116])) = true := item_ok _ named_vault
  have hv := use_valid (itemN (polN (roll p0)) (ByteArray.mk #[118, 97, 117, 108, 116]))
  generalize useV (itemN (polN (roll p0)) (ByteArray.mk #[118, 97, 117, 108, 116])) = U at hv ⊢
  generalize itemV (polN (roll p0)) (ByteArray.mk #[118, 97, 117, 108, 116]) = I at h3 hi0 ⊢
  obtain ⟨J, hJ⟩ : ∃ J : Item, J = (I.1, (1, I.2.2)) := ⟨_, rfl⟩
  have eL : I.2.2.2.1 = J.2.2.2.1 := by rw [hJ]
  rw [← hJ, eL]
  rw [eL] at h3
  have hi : itemOk J = true := by rw [hJ]; exact item_kind hi0 (by decide)
  have hk : J.2.1 = 1 := by rw [hJ]
  clear hJ hi0 eL
  have f1 : fineB Y J = true := by unfold fineB; rw [hp, hi]; rfl
  have hI := itemOk_iff.1 hi
  have l1 := len_of f1
  obtain ⟨_, _, c0, e7, e8⟩ := fine_lens f1
  have eD : (lgt tyLink J.2.2.2.1 (J.2.2.2.1.length - 1)).2.1 = lastDay J := rfl
  have hlast : 0 ≤ lastDay J ∧ lastDay J ≤ 40000 := by
    obtain ⟨l, x, e, hx⟩ := last_mem (i := J) hI.2.2.2.1.1
    rw [hx]
    exact (linksB_all hI.2.2.2.2.1 x (by rw [e]; simp)).2
  have e5 : icv .i64 p1 = p1 := Go.IntWalk.i64_in _ (by omega)
  have e6 : irem p1 500 = p1 % 500 := by unfold irem; rw [Int.tmod_eq_emod_of_nonneg (by omega)]
  have ed : iadd .i64 (iadd .i64 (lastDay J) 1) (p1 % 500) = lastDay J + 1 + p1 % 500 := by rw [iadd_in (a := lastDay J) (b := 1) (by omega), iadd_in (by omega)]
  have rl : ∀ d, renLen Y J U d = true := fun d => l1
  rw [e7]
  simp only [Int.toNat_natCast, eD, e5, e6, ed, e8, l1, rl, br_true, frk_self, show cNz 500 = true from rfl, c0]
  have hday : lastDay J < lastDay J + 1 + p1 % 500 := by omega
  generalize lastDay J + 1 + p1 % 500 = day at hday ⊢
  rcases secrets_law f1 hk h3 hv hday with q | ⟨q1, q2, q3, q4⟩
  · rw [q]
    rfl
  · have l2 := len_of q2
    have z1 : ine 0 0 = false := rfl
    have hin : (fineB Y (moreL J U day) && decide (0 ≤ (0 : Int) ∧ (0 : Int) ≤ (moreL J U day).2.2.2.1.length)) = true := by
      rw [q2, Bool.true_and]
      exact decide_eq_true ⟨Int.le_refl 0, by omega⟩
    simp only [q1, z1, br_false, l2, br_true, fails_fineS f1, fails_fineS q2, hin, Int.toNat_zero, List.drop_zero, Bool.false_or]
    have tail : br (!(failsL Y (moreL J U day)).2) (some (V.t .bool awakeT22, ([] : List VO))) (br ((moreL J U day).2.2.2.1.any (hitB Y (moreL J U day).2.2.1 (failsL Y (moreL J U day)).1)) (some (.t .bool awakeT22, [])) (some (.t .bool false, []))) = some (V.t .bool (lawSecrets p0 p1), []) := by
      refine br_intro (fun _ => rfl) (fun g => ?_)
      rw [(q4 (by simpa using g)).2]
      rfl
    have tail2 : br (failsL Y (moreL J U day)).2 (br (ilt (failsL Y (moreL J U day)).1 (lgt tyLink J.2.2.2.1 0).2.1) (some (V.t .bool false, ([] : List VO))) (some (V.t .bool (lawSecrets p0 p1), []))) (some (V.t .bool (lawSecrets p0 p1), [])) = some (V.t .bool (lawSecrets p0 p1), []) := by
      refine br_intro (fun g => ?_) (fun _ => rfl)
      have := (q4 g).1
      rw [show ilt (failsL Y (moreL J U day)).1 (lgt tyLink J.2.2.2.1 0).2.1 = false from decide_eq_false (Int.not_lt.2 this), br_false]
    rw [tail, tail2]
    refine br_intro (fun g => ?_) (fun _ => rfl)
    obtain ⟨m1, m2⟩ := q3 g
    rw [m1, Bool.not_true, br_false, show igt (failsL Y (moreL J U day)).1 (failsL Y J).1 = false from decide_eq_false (by omega), br_false]
def sp_law22_LifetimeSecrets : Ent := spec (.pr (.sl tI) (.pr (.int .u16) .nil)) (fun x => (d16S2 x.1 x.2.1)) (fun x => (.t .bool (lawSecrets x.1 x.2.1)))
theorem ms_law22_LifetimeSecrets : Meets Try.prog 5 (strip sp_law22_LifetimeSecrets) := by
  obtain ⟨c, hc, hi⟩ := Option.map_eq_some_iff.1 ok_law22_LifetimeSecrets
  exact meets_spec (R := runF g_law22_LifetimeSecrets tc_law22_LifetimeSecrets rv_law22_LifetimeSecrets false) (meets_of (by decide) Try.func5 hc hi Try.ntmps5 rok_law22_LifetimeSecrets gk_law22_LifetimeSecrets lk_law22_LifetimeSecrets mixed) fun x hok => (e_law22_LifetimeSecrets x.1 x.2.1).trans (s_law22_LifetimeSecrets x.1 x.2.1 hok)
theorem okw_LifetimeSecrets (z0 : List Int) (z1 : Int) (w0 : Ty.wf (.sl (.int .i64)) z0) (w1 : Ty.wf (.int .u16) z1) : d16S2 z0 z1 = true := decide_eq_true (wf_u16 w1)
theorem walkLifetimeSecrets (z0 : (List Int)) (z1 : Int) (W : World) (v0 : Value) (v1 : Value) (c0 : C noX W (fun _ => .no) (V.t (.sl tI) z0).d v0) (c1 : C noX W (fun _ => .no) (V.t (.int .u16) z1).d v1) (w0 : Ty.wf (.sl tI) z0) (w1 : Ty.wf (.int .u16) z1) :
    Calls Try.prog 5 #[v0, v1] W fun r w' => r = .returned (.bool true) ∧ Below W.heap.size W w' :=
  calls_true (by decide) ms_law22_LifetimeSecrets (args := [.t (.sl tI) z0, .t (.int .u16) z1]) (strip_spec (x := (z0, z1, ())) rfl (okw_LifetimeSecrets z0 z1 w0 w1)) (by simp only [V.ds, Cs]; exact ⟨_, _, rfl, c0, _, _, rfl, c1, rfl⟩)
end
end Go.Proofs.Ytfehjdaielifiaa.K
