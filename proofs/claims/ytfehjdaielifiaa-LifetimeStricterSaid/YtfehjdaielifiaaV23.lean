/-
  The first law of 22: links.
-/
import Derived.Test.YtfehjdaielifiaaV22
import Derived.Test.YtfehjdaielifiaaV14
import Derived.Test.YtfehjdaielifiaaM2P
import Derived.Test.YtfehjdaielifiaaM3
import Derived.Test.YtfehjdaielifiaaP22
import Derived.Test.YtfehjdaielifiaaKD
set_option linter.unusedSimpArgs false
set_option linter.unusedVariables false
namespace Go.Proofs.Ytfehjdaielifiaa.K
open Go.RowKit
def failsF (y : Policy) (i : Item) : Int × Bool := ((FailsI y i).1, (FailsI y i).2.1 && ieq (FailsI y i).2.2 0)
/-- cipherplan/cipherplanlaw22.fails -/
def tc_law22_fails : TC := (.sq (.reg [(.mk (some 2) none (.m (.box (.t 0)))), (.mk (some 3) none (.m (.box (.t 1)))), (.mk (some 4) none (.m (.pu (.mv (.c (.v (.int .i64 0))))))), (.mk (some 5) none (.m (.pu (.mv (.c (.v (.bool false)))))))]) (.sq (.reg [(.mk (some 10) none (.m (.ld true 2 (.t 2)))), (.mk (some 11) none (.m (.ld true 5 (.t 3)))), (.mk (some 12) none (.call 21 [(.t 10), (.t 11)])), (.mk (some 9) none (.m (.pu (.mv (.t 12))))), (.mk (some 13) none (.m (.pu (.ext 0 (.t 9))))), (.mk (some 14) none (.m (.pu (.ext 1 (.t 9))))), (.mk (some 15) none (.m (.pu (.ext 2 (.t 9))))), (.mk (some 6) none (.m (.pu (.mv (.t 13))))), (.mk (some 7) none (.m (.pu (.mv (.t 14))))), (.mk (some 8) none (.m (.pu (.mv (.t 15)))))]) (.sq (.reg [(.mk (some 16) none (.m (.pu (.mv (.t 6))))), (.mk (some 17) none (.m (.pu (.mv (.t 7))))), (.mk (some 18) none (.m (.pu (.mv (.t 17))))), (.mk (some 19) (some (18, true)) (.m (.pu (.mv (.t 8))))), (.mk (some 20) (some (18, true)) (.m (.pu (.bin false .eql (.t 19) (.c (.v (.int .i64 0))))))), (.mk (some 21) none (.m (.pu (.pick (.t 18) (.t 20) (.c (.v (.bool false))))))), (.mk (some 4) none (.m (.pu (.mv (.t 16))))), (.mk (some 5) none (.m (.pu (.mv (.t 21)))))]) .rt)))
def rv_law22_fails : List (RV × Option Ty) := [((.t 4), some tI), ((.t 5), some .bool)]
def g_law22_fails : G := ⟨TYs, [], 22, EL [(21, sp_lifetime_Fails)], keeps, (fun _ _ => none), IL [], RL []⟩
def r_law22_fails (p0 : Policy) (p1 : Item) : Option (V × List VO) :=
  br ((fineLen p0 p1))
    (br (((FailsI p0 p1).2).1)
      (some (.tu [(.t tI ((FailsI p0 p1).1)), (.t .bool (ieq (((FailsI p0 p1).2).2) 0))], []))
      (some (.tu [(.t tI ((FailsI p0 p1).1)), (.t .bool false)], [])))
    (none)
theorem e_law22_fails (p0 : Policy) (p1 : Item) : runF g_law22_fails tc_law22_fails rv_law22_fails false [.t tyPolicy p0, .t tyItem p1] [] = r_law22_fails p0 p1 := by kernel_rfl
theorem ok_law22_fails : Option.map (trC Try.prog) Try.f14.body = some tc_law22_fails.er := by kernel_rfl
theorem rok_law22_fails : trVs Try.prog Try.f14.results.toList = some (rv_law22_fails.map Prod.fst) := by kernel_rfl
theorem en_law22_fails : Entered Try.prog 14 := .inr ⟨by decide, _, Try.func14, by kernel_rfl, by kernel_rfl⟩
theorem gk_law22_fails : GOk Try.prog g_law22_fails := gok_of _ (by
  intro p hp
  simp only [List.mem_cons, List.not_mem_nil, or_false] at hp
  rcases hp with rfl
  · exact ⟨en_lifetime_Fails, ms_lifetime_Fails⟩)
theorem lk_law22_fails : tc_law22_fails.lok g_law22_fails := by repeat (first | exact trivial | refine ⟨?_, ?_⟩)
theorem s_law22_fails (y : Policy) (i : Item) (h : fineLen y i = true) : r_law22_fails y i = some (.tu [.t tI (failsF y i).1, .t .bool (failsF y i).2], []) := by
  simp only [r_law22_fails, h, br_true, failsF]
  cases (FailsI y i).2.1 <;> rfl
def sp_law22_fails : Ent := spec (.pr tyPolicy (.pr tyItem .nil)) (fun x => (fineLen x.1 x.2.1)) (fun x => (.tu [(.t tI ((failsF x.1 x.2.1).1)), (.t .bool ((failsF x.1 x.2.1).2))]))
theorem ms_law22_fails : Meets Try.prog 14 (strip sp_law22_fails) := by
  obtain ⟨c, hc, hi⟩ := Option.map_eq_some_iff.1 ok_law22_fails
  exact meets_spec (R := runF g_law22_fails tc_law22_fails rv_law22_fails false) (meets_of (by decide) Try.func14 hc hi Try.ntmps14 rok_law22_fails gk_law22_fails lk_law22_fails mixed) fun x hok => (e_law22_fails x.1 x.2.1).trans (s_law22_fails x.1 x.2.1 hok)
def lkOk (n i : Int) (y : Policy) (x : Item) : Bool := fineB y x && ieq n (sgCount (lksF y x)) && decide (1 ≤ i)
def lawLinks (_ : List Int) : Bool := true
def dr_law22_LifetimeLinks_0 : List DO := [(.mk (.mk (some 61) none (.m (.ld true 2 (.t 4)))) []), (.mk (.mk (some 62) none (.m (.pu (.fa 3 (.t 5))))) []), (.mk (.mk (some 63) none (.m (.ld false 1 (.t 62)))) [1]), (.mk (.mk (some 64) none (.m (.pu (.mv (.t 8))))) []), (.mk (.mk (some 65) none (.m (.pu (.bin false .sub (.t 64) (.c (.v (.int .i64 1))))))) [3]), (.mk (.mk (some 66) none (.m (.pu (.ix 3 (.t 63) (.t 65))))) [2, 4]), (.mk (.mk (some 67) none (.m (.pu (.fa 0 (.t 66))))) [5]), (.mk (.mk (some 68) none (.m (.ld true 2 (.t 67)))) [6]), (.mk (.mk (some 69) none (.m (.pu (.fa 2 (.t 5))))) []), (.mk (.mk (some 70) none (.m (.ld false 1 (.t 69)))) [8]), (.mk (.mk (some 71) none (.call 13 [(.t 61), (.t 68), (.t 70)])) [0, 7, 9]), (.mk (.mk (some 60) none (.m (.pu (.mv (.t 71))))) [10]), (.mk (.mk (some 72) none (.m (.pu (.ext 0 (.t 60))))) [11]), (.mk (.mk (some 73) none (.m (.pu (.ext 1 (.t 60))))) [11]), (.mk (.mk (some 74) none (.m (.pu (.ext 2 (.t 60))))) [11]), (.mk (.mk (some 9) none (.m (.pu (.mv (.t 72))))) [12, 10, 0, 1, 2, 3, 4, 5, 6, 7, 8, 9, 10, 11, 12]), (.mk (.mk (some 10) none (.m (.pu (.mv (.t 73))))) [13, 15, 0, 1, 2, 3, 4, 5, 6, 7, 8, 9, 10, 11, 12, 13, 15]), (.mk (.mk (some 11) none (.m (.pu (.mv (.t 74))))) [14, 16, 0, 1, 2, 3, 4, 5, 6, 7, 8, 9, 10, 11, 12, 13, 14, 15, 16])]
def fg_law22_LifetimeLinks_0 : Fg := ⟨[(4, none), (5, none), (6, some tI), (8, some tI)], [(4, some tyPolicy), (5, some tyItem), (25, none), (5025, none), (10025, none), (15025, none)]⟩
def tb_law22_LifetimeLinks_0 : TC := (.sq (.sq (.reg [(.mk (some 48) none (.m (.pu (.mv (.t 8))))), (.mk (some 49) none (.m (.pu (.fa 3 (.t 5))))), (.mk (some 50) none (.m (.ld false 1 (.t 49)))), (.mk (some 51) none (.m (.pu (.len false (.t 50))))), (.mk (some 52) none (.m (.pu (.bin false .lss (.t 48) (.t 51))))), (.mk (some 53) none (.m (.pu (.mv (.t 52))))), (.mk (some 54) (some (53, true)) (.m (.pu (.mv (.t 8))))), (.mk (some 55) (some (53, true)) (.m (.pu (.mv (.t 6))))), (.mk (some 56) (some (53, true)) (.m (.pu (.bin false .leq (.t 54) (.t 55))))), (.mk (some 57) none (.m (.pu (.pick (.t 53) (.t 56) (.c (.v (.bool false)))))))]) (.cd (.t 57) .sk (.fg ⟨[(4, none), (5, none)], [(4, some tyPolicy), (5, some tyItem), (25, none), (5025, none), (10025, none), (15025, none)]⟩ (.ex 0)))) (.sq (.bk 1 (.sq (.dr dr_law22_LifetimeLinks_0 [(0, [4, 25, 5025, 10025, 15025]), (1, [5]), (2, [5]), (3, []), (4, []), (5, []), (6, []), (7, []), (8, [5]), (9, [5]), (10, [4, 25, 71, 5025, 5071, 10025, 10071, 15025, 15071]), (11, []), (12, []), (13, []), (14, []), (15, []), (16, []), (17, [])] (.of [0, 1, 2, 3, 4, 5, 6, 7, 8, 9, 10, 11, 12, 13, 14, 15, 16, 17])) (.sq (.reg [(.mk (some 75) none (.m (.pu (.mv (.t 8))))), (.mk (some 76) none (.m (.pu (.mv (.t 6))))), (.mk (some 77) none (.m (.pu (.bin false .lss (.t 75) (.t 76))))), (.mk (some 78) none (.m (.pu (.mv (.t 10))))), (.mk (some 79) none (.m (.pu (.nt (.t 78))))), (.mk (some 80) none (.m (.pu (.mv (.t 79))))), (.mk (some 81) (some (80, false)) (.m (.pu (.fa 3 (.t 5))))), (.mk (some 82) (some (80, false)) (.m (.ld false 1 (.t 81)))), (.mk (some 83) (some (80, false)) (.m (.pu (.mv (.t 8))))), (.mk (some 84) (some (80, false)) (.m (.pu (.ix 3 (.t 82) (.t 83))))), (.mk (some 85) (some (80, false)) (.m (.pu (.fa 2 (.t 84))))), (.mk (some 86) (some (80, false)) (.m (.ld false 1 (.t 85)))), (.mk (some 87) (some (80, false)) (.m (.pu (.mv (.t 9))))), (.mk (some 88) (some (80, false)) (.m (.pu (.bin false .lss (.t 86) (.t 87))))), (.mk (some 89) none (.m (.pu (.pick (.t 80) (.c (.v (.bool true))) (.t 88))))), (.mk (some 90) none (.m (.pu (.bin true .neq (.t 77) (.t 89)))))]) (.cd (.t 90) (.sq (.reg [(.mk (some 2) none (.m (.pu (.mv (.c (.v (.bool false)))))))]) (.fg ⟨[(2, some .bool)], []⟩ .rt)) .sk)))) (.reg [(.mk (some 58) none (.m (.pu (.mv (.t 8))))), (.mk (some 59) none (.m (.pu (.bin false .add (.t 58) (.c (.v (.int .i64 1))))))), (.mk (some 8) none (.m (.pu (.mv (.t 59)))))])))
/-- cipherplan/cipherplanlaw22.LifetimeLinks -/
def tc_law22_LifetimeLinks : TC := (.sq (.reg [(.mk (some 2) none (.m (.pu (.mv (.c (.v (.bool false)))))))]) (.sq (.sq (.reg [(.mk (some 18) none (.m (.pu (.mv (.t 0))))), (.mk (some 19) none (.call 7 [(.t 18)])), (.mk (some 20) none (.m (.pu (.nt (.t 19)))))]) (.cd (.t 20) (.sq (.reg [(.mk (some 21) none (.call 8 [])), (.mk (some 2) none (.m (.pu (.mv (.t 21)))))]) .rt) .sk)) (.sq (.reg [(.mk (some 22) none (.m (.pu (.mv (.t 0))))), (.mk (some 23) none (.call 9 [(.t 22)])), (.mk (some 3) none (.m (.pu (.mv (.t 23)))))]) (.sq (.reg [(.mk (some 24) none (.m (.pu (.mv (.t 3))))), (.mk (some 25) none (.call 10 [(.t 24)])), (.mk (some 26) none (.m (.pu (.mv (.t 3))))), (.mk (some 27) none (.call 11 [(.t 26), (.c (.v (.string (ByteArray.mk #[100, 101, 101, 100]))))])), (.mk (some 4) none (.m (.new [(.v (.slice none 0 0)), (.v (.slice none 0 0))]))), (.mk (some 5) none (.m (.new [(.v (.string (ByteArray.mk #[]))), (.v (.int .i64 0)), (.v (.int .i64 0)), (.v (.slice none 0 0)), (.v (.int .i64 0))]))), (.mk none none (.m (.st 2 (.t 4) (.t 25)))), (.mk none none (.m (.st 5 (.t 5) (.t 27))))]) (.sq (.reg [(.mk (some 28) none (.m (.pu (.fa 1 (.t 5))))), (.mk none none (.m (.st 1 (.t 28) (.c (.v (.int .i64 2))))))]) (.sq (.reg [(.mk (some 30) none (.m (.ld true 2 (.t 4)))), (.mk (some 31) none (.m (.ld true 5 (.t 5)))), (.mk (some 32) none (.call 12 [(.t 30), (.t 31)])), (.mk (some 29) none (.m (.pu (.mv (.t 32))))), (.mk (some 33) none (.m (.pu (.ext 0 (.t 29))))), (.mk (some 34) none (.m (.pu (.ext 1 (.t 29))))), (.mk (some 6) none (.m (.pu (.mv (.t 33))))), (.mk (some 7) none (.m (.pu (.mv (.t 34)))))]) (.sq (.sq (.reg [(.mk (some 35) none (.m (.pu (.mv (.t 7))))), (.mk (some 36) none (.m (.pu (.bin false .neq (.t 35) (.c (.v (.int .i64 0))))))), (.mk (some 37) none (.m (.pu (.mv (.t 36))))), (.mk (some 38) (some (37, false)) (.m (.pu (.mv (.t 6))))), (.mk (some 39) (some (37, false)) (.m (.pu (.bin false .lss (.t 38) (.c (.v (.int .i64 1))))))), (.mk (some 40) none (.m (.pu (.pick (.t 37) (.c (.v (.bool true))) (.t 39))))), (.mk (some 41) none (.m (.pu (.mv (.t 40))))), (.mk (some 42) (some (41, false)) (.m (.pu (.mv (.t 6))))), (.mk (some 43) (some (41, false)) (.m (.pu (.fa 3 (.t 5))))), (.mk (some 44) (some (41, false)) (.m (.ld false 1 (.t 43)))), (.mk (some 45) (some (41, false)) (.m (.pu (.len false (.t 44))))), (.mk (some 46) (some (41, false)) (.m (.pu (.bin false .gtr (.t 42) (.t 45))))), (.mk (some 47) none (.m (.pu (.pick (.t 41) (.c (.v (.bool true))) (.t 46)))))]) (.cd (.t 47) (.sq (.reg [(.mk (some 2) none (.m (.pu (.mv (.c (.v (.bool false)))))))]) .rt) .sk)) (.sq (.sq (.reg [(.mk (some 8) none (.m (.pu (.mv (.c (.v (.int .i64 1)))))))]) (.bk 0 (.lp 0 fg_law22_LifetimeLinks_0 tb_law22_LifetimeLinks_0))) (.sq (.reg [(.mk (some 92) none (.m (.pu (.bd [(.v (.slice none 0 0)), (.v (.slice none 0 0))] [])))), (.mk (some 93) none (.m (.ld true 5 (.t 5)))), (.mk (some 94) none (.call 14 [(.t 92), (.t 93)])), (.mk (some 91) none (.m (.pu (.mv (.t 94))))), (.mk (some 95) none (.m (.pu (.ext 0 (.t 91))))), (.mk (some 96) none (.m (.pu (.ext 1 (.t 91))))), (.mk (some 12) none (.m (.pu (.mv (.t 95))))), (.mk (some 13) none (.m (.pu (.mv (.t 96)))))]) (.sq (.reg [(.mk (some 97) none (.m (.pu (.fa 1 (.t 5))))), (.mk none none (.m (.st 1 (.t 97) (.c (.v (.int .i64 1))))))]) (.sq (.reg [(.mk (some 99) none (.m (.pu (.bd [(.v (.slice none 0 0)), (.v (.slice none 0 0))] [])))), (.mk (some 100) none (.m (.ld true 5 (.t 5)))), (.mk (some 101) none (.call 14 [(.t 99), (.t 100)])), (.mk (some 98) none (.m (.pu (.mv (.t 101))))), (.mk (some 102) none (.m (.pu (.ext 0 (.t 98))))), (.mk (some 103) none (.m (.pu (.ext 1 (.t 98))))), (.mk (some 14) none (.m (.pu (.mv (.t 102))))), (.mk (some 15) none (.m (.pu (.mv (.t 103)))))]) (.sq (.reg [(.mk (some 105) none (.m (.ld true 2 (.t 4)))), (.mk (some 106) none (.m (.ld true 5 (.t 5)))), (.mk (some 107) none (.call 12 [(.t 105), (.t 106)])), (.mk (some 104) none (.m (.pu (.mv (.t 107))))), (.mk (some 108) none (.m (.pu (.ext 0 (.t 104))))), (.mk (some 109) none (.m (.pu (.ext 1 (.t 104))))), (.mk (some 16) none (.m (.pu (.mv (.t 108))))), (.mk (some 17) none (.m (.pu (.mv (.t 109)))))]) (.sq (.reg [(.mk (some 110) none (.m (.pu (.mv (.t 13))))), (.mk (some 111) none (.m (.pu (.nt (.t 110))))), (.mk (some 112) none (.m (.pu (.mv (.t 111))))), (.mk (some 113) (some (112, true)) (.m (.pu (.mv (.t 15))))), (.mk (some 114) (some (112, true)) (.m (.pu (.nt (.t 113))))), (.mk (some 115) none (.m (.pu (.pick (.t 112) (.t 114) (.c (.v (.bool false))))))), (.mk (some 116) none (.m (.pu (.mv (.t 115))))), (.mk (some 117) (some (116, true)) (.m (.pu (.mv (.t 17))))), (.mk (some 118) (some (116, true)) (.m (.pu (.bin false .eql (.t 117) (.c (.v (.int .i64 0))))))), (.mk (some 119) none (.m (.pu (.pick (.t 116) (.t 118) (.c (.v (.bool false))))))), (.mk (some 120) none (.m (.pu (.mv (.t 119))))), (.mk (some 121) (some (120, true)) (.m (.pu (.mv (.t 16))))), (.mk (some 122) (some (120, true)) (.m (.pu (.fa 3 (.t 5))))), (.mk (some 123) (some (120, true)) (.m (.ld false 1 (.t 122)))), (.mk (some 124) (some (120, true)) (.m (.pu (.len false (.t 123))))), (.mk (some 125) (some (120, true)) (.m (.pu (.bin false .eql (.t 121) (.t 124))))), (.mk (some 126) none (.m (.pu (.pick (.t 120) (.t 125) (.c (.v (.bool false))))))), (.mk (some 127) none (.m (.pu (.mv (.t 126))))), (.mk (some 128) (some (127, true)) (.m (.pu (.fa 3 (.t 5))))), (.mk (some 129) (some (127, true)) (.m (.ld false 1 (.t 128)))), (.mk (some 130) (some (127, true)) (.m (.pu (.ix 3 (.t 129) (.c (.v (.int .i64 0))))))), (.mk (some 131) (some (127, true)) (.m (.pu (.fa 0 (.t 130))))), (.mk (some 132) (some (127, true)) (.m (.ld true 2 (.t 131)))), (.mk (some 133) (some (127, true)) (.call 15 [(.t 132)])), (.mk (some 134) none (.m (.pu (.pick (.t 127) (.t 133) (.c (.v (.bool false))))))), (.mk (some 135) none (.m (.pu (.mv (.t 134))))), (.mk (some 136) (some (135, true)) (.call 8 [])), (.mk (some 137) none (.m (.pu (.pick (.t 135) (.t 136) (.c (.v (.bool false))))))), (.mk (some 2) none (.m (.pu (.mv (.t 137)))))]) .rt)))))))))))))
def rv_law22_LifetimeLinks : List (RV × Option Ty) := [((.t 2), some .bool)]
abbrev sh_law22_LifetimeLinks_0 : Sh := ⟨[(4, .ptr 4 0), (5, .ptr 5 0), (6, .ty tI), (8, .ty tI)], [(4, .box tyPolicy), (5, .box tyItem), (25, .no), (5025, .no), (10025, .no), (15025, .no)]⟩
def st_law22_LifetimeLinks_0 (x6 : Int) (x8 : Int) (y4 : Policy) (y5 : Item) : VS := sh_law22_LifetimeLinks_0.st ((), (), x6, x8, ()) (y4, y5, (), (), (), (), ())
abbrev sh_law22_LifetimeLinks_0_ret : Sh := ⟨[(2, .ty .bool)], []⟩
def st_law22_LifetimeLinks_0_ret (x2 : Bool) : VS := sh_law22_LifetimeLinks_0_ret.st (x2, ()) ()
abbrev sh_law22_LifetimeLinks_0_e0 : Sh := ⟨[(4, .ptr 4 0), (5, .ptr 5 0)], [(4, .box tyPolicy), (5, .box tyItem), (25, .no), (5025, .no), (10025, .no), (15025, .no)]⟩
def st_law22_LifetimeLinks_0_e0 (y4 : Policy) (y5 : Item) : VS := sh_law22_LifetimeLinks_0_e0.st ((), (), ()) (y4, y5, (), (), (), (), ())
-- loop 0: (x6 : Int) (x8 : Int) (y4 : Policy) (y5 : Item); out: ('ret',) (x2 : Bool); ('exit', 0) (y4 : Policy) (y5 : Item)
def L_law22_LifetimeLinks_0 : VS → Option (Bool × List (Bool × Exit × VS)) := mkL sh_law22_LifetimeLinks_0 (fun x y => (lkOk x.2.2.1 x.2.2.2.1 y.1 y.2.1)) (fun x y => [(true, .exit 0, st_law22_LifetimeLinks_0_e0 (y.1) (y.2.1))])
def g_law22_LifetimeLinks : G := ⟨TYs, [], 138, EL [(7, sp_make_Light), (8, sp_law22_awake), (9, sp_make_Roll), (10, sp_make_Policy), (11, sp_make_Item), (12, sp_lifetime_Links), (13, sp_ref18_Falls), (14, sp_law22_fails), (15, sp_ref02_Valid)], keeps, (Ls [L_law22_LifetimeLinks_0]), IL [], RL []⟩
def b_law22_LifetimeLinks_0 (x6 : Int) (x8 : Int) (y4 : Policy) (y5 : Item) : Option (Exit × VS) :=
  br ((ilt x8 (llen y5.2.2.2.1)))
    (br ((ile x8 x6))
      (br (cIx y5.2.2.2.1 (isub .i64 x8 1))
        (br ((polLen3 y4 ((lgt tyLink y5.2.2.2.1 (Int.toNat (isub .i64 x8 1))).1) y5.2.2.1))
          (br ((!(((FallsF y4 ((lgt tyLink y5.2.2.2.1 (Int.toNat (isub .i64 x8 1))).1) y5.2.2.1).2).1)))
            (br ((bneq (ilt x8 x6) true))
              (some (.ret, st_law22_LifetimeLinks_0_ret false))
              (some (.normal, st_law22_LifetimeLinks_0 x6 (iadd .i64 x8 1) y4 y5)))
            (br (cIx y5.2.2.2.1 x8)
              (br ((bneq (ilt x8 x6) (ilt (((lgt tyLink y5.2.2.2.1 (Int.toNat x8)).2).1) ((FallsF y4 ((lgt tyLink y5.2.2.2.1 (Int.toNat (isub .i64 x8 1))).1) y5.2.2.1).1))))
                (some (.ret, st_law22_LifetimeLinks_0_ret false))
                (some (.normal, st_law22_LifetimeLinks_0 x6 (iadd .i64 x8 1) y4 y5)))
              (none)))
          (none))
        (none))
      (some (.exit 0, st_law22_LifetimeLinks_0_e0 y4 y5)))
    (some (.exit 0, st_law22_LifetimeLinks_0_e0 y4 y5))
noncomputable def lp_law22_LifetimeLinks_0 (x6 : Int) (x8 : Int) (y4 : Policy) (y5 : Item) : Option (Exit × VS) := loopF (roundF g_law22_LifetimeLinks fg_law22_LifetimeLinks_0 tb_law22_LifetimeLinks_0) (st_law22_LifetimeLinks_0 x6 x8 y4 y5)
noncomputable def n_law22_LifetimeLinks_0 (x6 : Int) (x8 : Int) (y4 : Policy) (y5 : Item) : Option (Exit × VS) :=
  br ((ilt x8 (llen y5.2.2.2.1)))
    (br ((ile x8 x6))
      (br (cIx y5.2.2.2.1 (isub .i64 x8 1))
        (br ((polLen3 y4 ((lgt tyLink y5.2.2.2.1 (Int.toNat (isub .i64 x8 1))).1) y5.2.2.1))
          (br ((!(((FallsF y4 ((lgt tyLink y5.2.2.2.1 (Int.toNat (isub .i64 x8 1))).1) y5.2.2.1).2).1)))
            (br ((bneq (ilt x8 x6) true))
              (some (.ret, st_law22_LifetimeLinks_0_ret false))
              (lp_law22_LifetimeLinks_0 x6 (iadd .i64 x8 1) y4 y5))
            (br (cIx y5.2.2.2.1 x8)
              (br ((bneq (ilt x8 x6) (ilt (((lgt tyLink y5.2.2.2.1 (Int.toNat x8)).2).1) ((FallsF y4 ((lgt tyLink y5.2.2.2.1 (Int.toNat (isub .i64 x8 1))).1) y5.2.2.1).1))))
                (some (.ret, st_law22_LifetimeLinks_0_ret false))
                (lp_law22_LifetimeLinks_0 x6 (iadd .i64 x8 1) y4 y5))
              (none)))
          (none))
        (none))
      (some (.exit 0, st_law22_LifetimeLinks_0_e0 y4 y5)))
    (some (.exit 0, st_law22_LifetimeLinks_0_e0 y4 y5))
def la_law22_LifetimeLinks_0 (x6 : Int) (x8 : Int) (y4 : Policy) (y5 : Item) : Option (Exit × VS) := some (.exit 0, st_law22_LifetimeLinks_0_e0 (y4) (y5))
theorem be_law22_LifetimeLinks_0 (x6 : Int) (x8 : Int) (y4 : Policy) (y5 : Item) : roundF g_law22_LifetimeLinks fg_law22_LifetimeLinks_0 tb_law22_LifetimeLinks_0 (st_law22_LifetimeLinks_0 x6 x8 y4 y5) = b_law22_LifetimeLinks_0 x6 x8 y4 y5 := by kernel_rfl
theorem ln_law22_LifetimeLinks_0 (x6 : Int) (x8 : Int) (y4 : Policy) (y5 : Item) : lp_law22_LifetimeLinks_0 x6 x8 y4 y5 = n_law22_LifetimeLinks_0 x6 x8 y4 y5 := (loopF_nxt _ _).trans (by
  rw [be_law22_LifetimeLinks_0]
  simp only [b_law22_LifetimeLinks_0, n_law22_LifetimeLinks_0, nxt_br, nxt_n, nxt_r, nxt_e, nxt_0]
  rfl)
def r_law22_LifetimeLinks (p0 : (List Int)) : Option (V × List VO) :=
  br ((!(light p0)))
    (some (.t .bool awakeT22, []))
    (br ((dOk (roll p0)))
      (br ((dOkS (polN (roll p0)) (ByteArray.mk #[100, 101, 101, 100])))
        (br ((fineLen ((polV (roll p0)).1, (((polV (roll p0)).2).1, ())) ((itemV (polN (roll p0)) (ByteArray.mk #[100, 101, 101, 100])).1, (2, ((itemV (polN (roll p0)) (ByteArray.mk #[100, 101, 101, 100])).2).2))))
          (br ((ine ((LinksF ((polV (roll p0)).1, (((polV (roll p0)).2).1, ())) ((itemV (polN (roll p0)) (ByteArray.mk #[100, 101, 101, 100])).1, (2, ((itemV (polN (roll p0)) (ByteArray.mk #[100, 101, 101, 100])).2).2))).2) 0))
            (some (.t .bool false, []))
            (br ((ilt ((LinksF ((polV (roll p0)).1, (((polV (roll p0)).2).1, ())) ((itemV (polN (roll p0)) (ByteArray.mk #[100, 101, 101, 100])).1, (2, ((itemV (polN (roll p0)) (ByteArray.mk #[100, 101, 101, 100])).2).2))).1) 1))
              (some (.t .bool false, []))
              (br ((igt ((LinksF ((polV (roll p0)).1, (((polV (roll p0)).2).1, ())) ((itemV (polN (roll p0)) (ByteArray.mk #[100, 101, 101, 100])).1, (2, ((itemV (polN (roll p0)) (ByteArray.mk #[100, 101, 101, 100])).2).2))).1) (llen (((((itemV (polN (roll p0)) (ByteArray.mk #[100, 101, 101, 100])).2).2).2).1))))
                (some (.t .bool false, []))
                (br ((lkOk ((LinksF ((polV (roll p0)).1, (((polV (roll p0)).2).1, ())) ((itemV (polN (roll p0)) (ByteArray.mk #[100, 101, 101, 100])).1, (2, ((itemV (polN (roll p0)) (ByteArray.mk #[100, 101, 101, 100])).2).2))).1) (1 : Int) ((polV (roll p0)).1, (((polV (roll p0)).2).1, ())) ((itemV (polN (roll p0)) (ByteArray.mk #[100, 101, 101, 100])).1, (2, ((itemV (polN (roll p0)) (ByteArray.mk #[100, 101, 101, 100])).2).2))))
                  (br ((fineLen (([] : List Rule), (([] : List Keep), ())) (((itemV (polN (roll p0)) (ByteArray.mk #[100, 101, 101, 100])).1, (2, ((itemV (polN (roll p0)) (ByteArray.mk #[100, 101, 101, 100])).2).2)))))
                    (br ((fineLen (([] : List Rule), (([] : List Keep), ())) ((((itemV (polN (roll p0)) (ByteArray.mk #[100, 101, 101, 100])).1, (2, ((itemV (polN (roll p0)) (ByteArray.mk #[100, 101, 101, 100])).2).2))).1, (1, ((((itemV (polN (roll p0)) (ByteArray.mk #[100, 101, 101, 100])).1, (2, ((itemV (polN (roll p0)) (ByteArray.mk #[100, 101, 101, 100])).2).2))).2).2))))
                      (br ((fineLen (((polV (roll p0)).1, (((polV (roll p0)).2).1, ()))) ((((itemV (polN (roll p0)) (ByteArray.mk #[100, 101, 101, 100])).1, (2, ((itemV (polN (roll p0)) (ByteArray.mk #[100, 101, 101, 100])).2).2))).1, (1, ((((itemV (polN (roll p0)) (ByteArray.mk #[100, 101, 101, 100])).1, (2, ((itemV (polN (roll p0)) (ByteArray.mk #[100, 101, 101, 100])).2).2))).2).2))))
                        (br ((!((failsF (([] : List Rule), (([] : List Keep), ())) (((itemV (polN (roll p0)) (ByteArray.mk #[100, 101, 101, 100])).1, (2, ((itemV (polN (roll p0)) (ByteArray.mk #[100, 101, 101, 100])).2).2)))).2)))
                          (br ((!((failsF (([] : List Rule), (([] : List Keep), ())) ((((itemV (polN (roll p0)) (ByteArray.mk #[100, 101, 101, 100])).1, (2, ((itemV (polN (roll p0)) (ByteArray.mk #[100, 101, 101, 100])).2).2))).1, (1, ((((itemV (polN (roll p0)) (ByteArray.mk #[100, 101, 101, 100])).1, (2, ((itemV (polN (roll p0)) (ByteArray.mk #[100, 101, 101, 100])).2).2))).2).2))).2)))
                            (br ((ieq ((LinksF (((polV (roll p0)).1, (((polV (roll p0)).2).1, ()))) ((((itemV (polN (roll p0)) (ByteArray.mk #[100, 101, 101, 100])).1, (2, ((itemV (polN (roll p0)) (ByteArray.mk #[100, 101, 101, 100])).2).2))).1, (1, ((((itemV (polN (roll p0)) (ByteArray.mk #[100, 101, 101, 100])).1, (2, ((itemV (polN (roll p0)) (ByteArray.mk #[100, 101, 101, 100])).2).2))).2).2))).2) 0))
                              (br ((ieq ((LinksF (((polV (roll p0)).1, (((polV (roll p0)).2).1, ()))) ((((itemV (polN (roll p0)) (ByteArray.mk #[100, 101, 101, 100])).1, (2, ((itemV (polN (roll p0)) (ByteArray.mk #[100, 101, 101, 100])).2).2))).1, (1, ((((itemV (polN (roll p0)) (ByteArray.mk #[100, 101, 101, 100])).1, (2, ((itemV (polN (roll p0)) (ByteArray.mk #[100, 101, 101, 100])).2).2))).2).2))).1) (llen (((((((itemV (polN (roll p0)) (ByteArray.mk #[100, 101, 101, 100])).1, (2, ((itemV (polN (roll p0)) (ByteArray.mk #[100, 101, 101, 100])).2).2))).2).2).2).1))))
                                (br (cIx (((((((itemV (polN (roll p0)) (ByteArray.mk #[100, 101, 101, 100])).1, (2, ((itemV (polN (roll p0)) (ByteArray.mk #[100, 101, 101, 100])).2).2))).2).2).2).1) 0)
                                  (br ((validF ((lgt tyLink (((((((itemV (polN (roll p0)) (ByteArray.mk #[100, 101, 101, 100])).1, (2, ((itemV (polN (roll p0)) (ByteArray.mk #[100, 101, 101, 100])).2).2))).2).2).2).1) (Int.toNat 0)).1)))
                                    (some (.t .bool awakeT22, []))
                                    (some (.t .bool false, [])))
                                  (none))
                                (some (.t .bool false, [])))
                              (some (.t .bool false, [])))
                            (some (.t .bool false, [])))
                          (some (.t .bool false, [])))
                        (none))
                      (none))
                    (none))
                  (none)))))
          (none))
        (none))
      (none))
theorem e_law22_LifetimeLinks (p0 : (List Int)) : runF g_law22_LifetimeLinks tc_law22_LifetimeLinks rv_law22_LifetimeLinks false [.t (.sl tI) p0] [] = r_law22_LifetimeLinks p0 := by kernel_rfl
theorem ok_law22_LifetimeLinks : Option.map (trC Try.prog) Try.f3.body = some tc_law22_LifetimeLinks.er := by kernel_rfl
theorem rok_law22_LifetimeLinks : trVs Try.prog Try.f3.results.toList = some (rv_law22_LifetimeLinks.map Prod.fst) := by kernel_rfl
theorem en_law22_LifetimeLinks : Entered Try.prog 3 := .inr ⟨by decide, _, Try.func3, by kernel_rfl, by kernel_rfl⟩
theorem gk_law22_LifetimeLinks : GOk Try.prog g_law22_LifetimeLinks := gok_of _ (by
  intro p hp
  simp only [List.mem_cons, List.not_mem_nil, or_false] at hp
  rcases hp with rfl | rfl | rfl | rfl | rfl | rfl | rfl | rfl | rfl
  · exact ⟨en_make_Light, ms_make_Light⟩
  · exact ⟨en_law22_awake, ms_law22_awake⟩
  · exact ⟨en_make_Roll, ms_make_Roll⟩
  · exact ⟨en_make_Policy, ms_make_Policy⟩
  · exact ⟨en_make_Item, ms_make_Item⟩
  · exact ⟨en_lifetime_Links, ms_lifetime_Links⟩
  · exact ⟨en_ref18_Falls, ms_ref18_Falls⟩
  · exact ⟨en_law22_fails, ms_law22_fails⟩
  · exact ⟨en_ref02_Valid, ms_ref02_Valid⟩)
theorem l_law22_LifetimeLinks_0 (x6 : Int) (x8 : Int) (y4 : Policy) (y5 : Item) (h : (lkOk x6 x8 y4 y5) = true) : lp_law22_LifetimeLinks_0 x6 x8 y4 y5 = la_law22_LifetimeLinks_0 x6 x8 y4 y5 := by
  simp only [lkOk, ieq_dec, Bool.and_eq_true, decide_eq_true_eq] at h
  obtain ⟨⟨hf, rfl⟩, h1⟩ := h
  obtain ⟨k, hk⟩ : ∃ k : Nat, x8 = ((k + 1 : Nat) : Int) := ⟨(x8 - 1).toNat, by omega⟩
  subst hk
  clear h1
  have hf2 := hf
  simp only [fineB, Bool.and_eq_true] at hf2
  have hi := itemOk_iff.1 hf2.2
  have hpl : ∀ u q, polLen3 y4 u q = true := fun u q => (pol_len hf2.1).1
  obtain ⟨m, hm⟩ : ∃ m, m = y5.2.2.2.1.length - k := ⟨_, rfl⟩
  induction m generalizing k with
  | zero =>
    rw [ln_law22_LifetimeLinks_0]
    have e1 : ilt ((k + 1 : Nat) : Int) (llen y5.2.2.2.1) = false := by simp only [ilt, llen, decide_eq_false_iff_not]; omega
    simp only [n_law22_LifetimeLinks_0, e1, br_false, la_law22_LifetimeLinks_0]
  | succ m ih =>
    rw [ln_law22_LifetimeLinks_0]
    by_cases hk : k + 1 < y5.2.2.2.1.length
    · have e1 : ilt ((k + 1 : Nat) : Int) (llen y5.2.2.2.1) = true := by simp only [ilt, llen, decide_eq_true_eq]; omega
      by_cases hn : ((k + 1 : Nat) : Int) ≤ sgCount (lksF y4 y5)
      · have e2 : ile ((k + 1 : Nat) : Int) (sgCount (lksF y4 y5)) = true := decide_eq_true hn
        have e3 : isub .i64 ((k + 1 : Nat) : Int) 1 = (k : Int) := by rw [isub_in (by omega)]; omega
        have hk0 : k < y5.2.2.2.1.length := by omega
        have hv := linksB_all hi.2.2.2.2.1 y5.2.2.2.1[k] (List.getElem_mem hk0)
        have ef := falls_fine (u := y5.2.2.2.1[k].1) (p := y5.2.2.1) hf2.1 hv.1 hi.2.2.1.1 hi.2.2.1.2
        have hc := cnt_cnd (l := lksF y4 y5) (k := k) (by simpa [lksF] using hk) (by omega)
        simp only [lksF, List.getElem_map] at hc
        have ea : (k : Int) + 1 = ((k + 1 : Nat) : Int) := by omega
        rw [ea] at hc
        rw [show sgCount (lksF y4 y5) = sgCount (List.map (lkF y4 y5.2.2.1) y5.2.2.2.1) from rfl] at *
        simp only [n_law22_LifetimeLinks_0, e1, e2, e3, br_true, cIx_nat, hk, hk0, decide_true, Int.toNat_natCast, lgt_get (y := tyLink) hk, lgt_get (y := tyLink) hk0, hpl, ef, add1 (show k + 1 < 4611686018427387904 by omega), ← hc]
        have ih := ih (k + 1) (by omega)
        rw [ih]
        simp only [cnd, lkF]
        cases (fallL (spansF y4 y5.2.2.2.1[k].1 y5.2.2.1)).2 <;> cases ilt y5.2.2.2.1[k + 1].2.1 (fallL (spansF y4 y5.2.2.2.1[k].1 y5.2.2.1)).1 <;> rfl
      · have e2 : ile ((k + 1 : Nat) : Int) (sgCount (lksF y4 y5)) = false := decide_eq_false hn
        simp only [n_law22_LifetimeLinks_0, e1, e2, br_true, br_false, la_law22_LifetimeLinks_0]
    · have e1 : ilt ((k + 1 : Nat) : Int) (llen y5.2.2.2.1) = false := by simp only [ilt, llen, decide_eq_false_iff_not]; omega
      simp only [n_law22_LifetimeLinks_0, e1, br_false, la_law22_LifetimeLinks_0]
theorem lo_law22_LifetimeLinks_0 : ∀ S l p, g_law22_LifetimeLinks.L 0 (fgt fg_law22_LifetimeLinks_0 S) = some (true, l) → pickA l = some p → loopF (roundF g_law22_LifetimeLinks fg_law22_LifetimeLinks_0 tb_law22_LifetimeLinks_0) S = some p :=
  lok_of (s := sh_law22_LifetimeLinks_0) ⟨by decide, by decide⟩ (by kernel_rfl) fun x y hok p hp => by
  simp only [pickA_br, pickA_one] at hp
  exact (l_law22_LifetimeLinks_0 x.2.2.1 x.2.2.2.1 y.1 y.2.1 (by simpa using hok)).trans hp
theorem lk_law22_LifetimeLinks : tc_law22_LifetimeLinks.lok g_law22_LifetimeLinks := by
  repeat (first | exact trivial | exact lo_law22_LifetimeLinks_0 | refine ⟨?_, ?_⟩)
theorem s_law22_LifetimeLinks (p0 : List Int) : r_law22_LifetimeLinks p0 = some (.t .bool (lawLinks p0), []) := by
  unfold r_law22_LifetimeLinks
  refine br_intro (fun _ => rfl) (fun g1 => ?_)
  have hd := not_light g1
  rw [hd, br_true, show dOkS (polN (roll p0)) (ByteArray.mk #[100, 101, 101, 100]) = true from dOk_pol hd, br_true]
  have hp := pol_ok (roll p0)
  generalize hy : polV (roll p0) = Y at hp
  generalize hx : itemV (polN (roll p0)) (ByteArray.mk #[100, 101, 101, 100]) = I
  have hi : itemOk I = true := by rw [← hx]; exact item_ok _ named_deed
  have f2 : fineB Y (I.1, (2, I.2.2)) = true := by unfold fineB; rw [hp, item_kind hi (by decide)]; rfl
  have f1 : fineB Y (I.1, (1, I.2.2)) = true := by unfold fineB; rw [hp, item_kind hi (by decide)]; rfl
  have f3 : fineB polE (I.1, (2, I.2.2)) = true := by unfold fineB; rw [item_kind hi (by decide)]; rfl
  have f4 : fineB polE (I.1, (1, I.2.2)) = true := by unfold fineB; rw [item_kind hi (by decide)]; rfl
  have e2 : LinksF Y (I.1, (2, I.2.2)) = (sgCount (lksF Y (I.1, (2, I.2.2))), 0) := by unfold LinksF; rw [f2]; rfl
  have e1 : LinksF Y (I.1, (1, I.2.2)) = (scCount (lksF Y (I.1, (1, I.2.2))), 0) := by unfold LinksF; rw [f1]; rfl
  have q1 : failsF polE (I.1, (2, I.2.2)) = ((failsL polE (I.1, (2, I.2.2))).1, false) := by unfold failsF FailsI; rw [f3, if_pos rfl, polE_fails]; rfl
  have q2 : failsF polE (I.1, (1, I.2.2)) = ((failsL polE (I.1, (1, I.2.2))).1, false) := by unfold failsF FailsI; rw [f4, if_pos rfl, polE_fails]; rfl
  have hI := itemOk_iff.1 hi
  have hl : 1 ≤ I.2.2.2.1.length := hI.2.2.2.1.1
  have hlk : ∀ k, (lksF Y (I.1, (k, I.2.2))).length = I.2.2.2.1.length := fun k => by simp [lksF]
  have hc := sgCount_le (l := lksF Y (I.1, (2, I.2.2))) (fun h => by have := hlk 2; rw [h] at this; simp at this; omega)
  rw [hlk] at hc
  have c1 : ilt (sgCount (lksF Y (I.1, (2, I.2.2)))) 1 = false := decide_eq_false (by omega)
  have c2 : igt (sgCount (lksF Y (I.1, (2, I.2.2)))) (llen I.2.2.2.1) = false := decide_eq_false (by unfold llen; omega)
  have c3 : lkOk (sgCount (lksF Y (I.1, (2, I.2.2)))) 1 Y (I.1, (2, I.2.2)) = true := by unfold lkOk; rw [f2, ieq_self]; rfl
  have c4 : ieq (scCount (lksF Y (I.1, (1, I.2.2)))) (llen I.2.2.2.1) = true := by unfold scCount llen; rw [hlk, ieq_self]
  have c5 : cIx I.2.2.2.1 0 = true := by simp only [cIx, decide_eq_true_eq]; omega
  have c6 : validF (lgt tyLink I.2.2.2.1 (Int.toNat 0)).1 = true := (linksB_all hI.2.2.2.2.1 _ (lgt_mem (y := tyLink) (by show 0 < _; omega))).1
  have g2 := len_of f2
  have g1 := len_of f1
  have g3 := len_of f3
  have g4 := len_of f4
  have z1 : ine 0 0 = false := rfl
  have z2 : ieq 0 0 = true := rfl
  show br (fineLen Y (I.1, (2, I.2.2))) (br (ine (LinksF Y (I.1, (2, I.2.2))).2 0) _ (br (ilt (LinksF Y (I.1, (2, I.2.2))).1 1) _ (br (igt (LinksF Y (I.1, (2, I.2.2))).1 (llen I.2.2.2.1)) _ (br (lkOk (LinksF Y (I.1, (2, I.2.2))).1 1 Y (I.1, (2, I.2.2))) (br (fineLen polE (I.1, (2, I.2.2))) (br (fineLen polE (I.1, (1, I.2.2))) (br (fineLen Y (I.1, (1, I.2.2))) (br (!(failsF polE (I.1, (2, I.2.2))).2) (br (!(failsF polE (I.1, (1, I.2.2))).2) (br (ieq (LinksF Y (I.1, (1, I.2.2))).2 0) (br (ieq (LinksF Y (I.1, (1, I.2.2))).1 (llen I.2.2.2.1)) (br (cIx I.2.2.2.1 0) (br (validF (lgt tyLink I.2.2.2.1 (Int.toNat 0)).1) _ _) _) _) _) _) _) _) _) _) _)))) _ = _
  simp only [g1, g2, g3, g4, e1, e2, q1, q2, c1, c2, c3, c4, c5, c6, z1, z2, br_true, br_false, Bool.not_false]
  rfl
def sp_law22_LifetimeLinks : Ent := spec (.pr (.sl tI) .nil) (fun x => true) (fun x => (.t .bool (lawLinks x.1)))
theorem ms_law22_LifetimeLinks : Meets Try.prog 3 (strip sp_law22_LifetimeLinks) := by
  obtain ⟨c, hc, hi⟩ := Option.map_eq_some_iff.1 ok_law22_LifetimeLinks
  exact meets_spec (R := runF g_law22_LifetimeLinks tc_law22_LifetimeLinks rv_law22_LifetimeLinks false) (meets_of (by decide) Try.func3 hc hi Try.ntmps3 rok_law22_LifetimeLinks gk_law22_LifetimeLinks lk_law22_LifetimeLinks mixed) fun x _ => (e_law22_LifetimeLinks x.1).trans (s_law22_LifetimeLinks x.1)
theorem walkLifetimeLinks (z0 : (List Int)) (W : World) (v0 : Value) (c0 : C noX W (fun _ => .no) (V.t (.sl tI) z0).d v0) (w0 : Ty.wf (.sl tI) z0) :
    Calls Try.prog 3 #[v0] W fun r w' => r = .returned (.bool true) ∧ Below W.heap.size W w' :=
  calls_true (by decide) ms_law22_LifetimeLinks (args := [.t (.sl tI) z0]) (strip_spec (x := (z0, ())) rfl (rfl)) (by simp only [V.ds, Cs]; exact ⟨_, _, rfl, c0, rfl⟩)
end Go.Proofs.Ytfehjdaielifiaa.K
