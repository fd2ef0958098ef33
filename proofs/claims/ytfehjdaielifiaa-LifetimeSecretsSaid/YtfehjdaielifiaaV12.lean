/-
  The answer of verdict: Spans, Falls; lists.
-/
import Derived.Test.YtfehjdaielifiaaV11
import Derived.Test.YtfehjdaielifiaaP19
set_option linter.unusedSimpArgs false
set_option linter.unusedVariables false
namespace Go.Proofs.Ytfehjdaielifiaa.K
open Go.RowKit
def dr_ref18_Spans_0 : List DO := [(.mk (.mk (some 29) none (.m (.ld true 2 (.t 3)))) []), (.mk (.mk (some 30) none (.m (.ld true 2 (.t 4)))) []), (.mk (.mk (some 31) none (.m (.pu (.mv (.t 2))))) []), (.mk (.mk (some 32) none (.m (.pu (.mv (.t 9))))) []), (.mk (.mk (some 33) none (.m (.pu (.mv (.t 11))))) []), (.mk (.mk (some 34) none (.m (.pu (.ix 1 (.t 32) (.t 33))))) [3, 4]), (.mk (.mk (some 35) none (.m (.ld false 1 (.t 34)))) [5]), (.mk (.mk (some 36) none (.call 37 [(.t 29), (.t 30), (.t 31), (.t 35)])) [0, 1, 2, 6]), (.mk (.mk (some 37) none (.m (.pu (.nt (.t 36))))) [7])]
def dr_ref18_Spans_1 : List DO := [(.mk (.mk (some 40) none (.m (.pu (.mv (.t 12))))) []), (.mk (.mk (some 41) none (.m (.pu (.bin false .gtr (.t 40) (.c (.v (.int .i64 0))))))) [0]), (.mk (.mk (some 42) none (.m (.pu (.mv (.t 41))))) [1]), (.mk (.mk (some 43) (some (42, true)) (.m (.pu (.mv (.t 10))))) [2]), (.mk (.mk (some 44) (some (42, true)) (.m (.pu (.mv (.t 12))))) [2]), (.mk (.mk (some 45) (some (42, true)) (.m (.pu (.bin false .sub (.t 44) (.c (.v (.int .i64 1))))))) [4, 2]), (.mk (.mk (some 46) (some (42, true)) (.m (.pu (.ix 2 (.t 43) (.t 45))))) [3, 5, 2]), (.mk (.mk (some 47) (some (42, true)) (.m (.pu (.fa 1 (.t 46))))) [6, 2]), (.mk (.mk (some 48) (some (42, true)) (.m (.ld false 1 (.t 47)))) [7, 2]), (.mk (.mk (some 49) (some (42, true)) (.m (.pu (.mv (.t 9))))) [2]), (.mk (.mk (some 50) (some (42, true)) (.m (.pu (.mv (.t 11))))) [2]), (.mk (.mk (some 51) (some (42, true)) (.m (.pu (.ix 1 (.t 49) (.t 50))))) [9, 10, 2]), (.mk (.mk (some 52) (some (42, true)) (.m (.ld false 1 (.t 51)))) [11, 2]), (.mk (.mk (some 53) (some (42, true)) (.m (.pu (.bin false .eql (.t 48) (.t 52))))) [8, 12, 2]), (.mk (.mk (some 54) none (.m (.pu (.pick (.t 42) (.t 53) (.c (.v (.bool false))))))) [2, 13])]
def dr_ref18_Spans_2 : List DO := [(.mk (.mk (some 65) none (.m (.pu (.mv (.t 10))))) []), (.mk (.mk (some 66) none (.m (.pu (.mv (.t 9))))) []), (.mk (.mk (some 67) none (.m (.pu (.mv (.t 11))))) []), (.mk (.mk (some 68) none (.m (.pu (.ix 1 (.t 66) (.t 67))))) [1, 2]), (.mk (.mk (some 69) none (.m (.ld false 1 (.t 68)))) [3]), (.mk (.mk (some 70) none (.m (.pu (.mv (.t 9))))) []), (.mk (.mk (some 71) none (.m (.pu (.mv (.t 11))))) []), (.mk (.mk (some 72) none (.m (.pu (.bin false .add (.t 71) (.c (.v (.int .i64 1))))))) [6]), (.mk (.mk (some 73) none (.m (.pu (.ix 1 (.t 70) (.t 72))))) [5, 7]), (.mk (.mk (some 74) none (.m (.ld false 1 (.t 73)))) [8]), (.mk (.mk (some 75) none (.m (.pu (.bd [(.v (.int .i64 0)), (.v (.int .i64 0))] [(0, 1, (.t 69)), (1, 1, (.t 74))])))) [4, 9]), (.mk (.mk (some 76) none (.m (.bs 73 2 1 [(.v (.int .i64 0)), (.v (.int .i64 0))] [(0, 2, (.t 75))]))) [10]), (.mk (.mk (some 77) none (.m (.app 73 2 16 (.t 65) (.t 76)))) [0, 11]), (.mk (.mk (some 10) none (.m (.pu (.mv (.t 77))))) [12, 12, 0, 1, 2, 3, 4, 5, 6, 7, 8, 9, 10, 11, 12])]
def fg_ref18_Spans_0 : Fg := ⟨[(2, some tI), (3, none), (4, none), (9, some (.sl tI)), (10, none), (11, some tI)], [(3, some tyPolicy), (4, some tyKeep), (10, none), (77, none)]⟩
def tb_ref18_Spans_0 : TC := (.sq (.sq (.reg [(.mk (some 22) none (.m (.pu (.mv (.t 11))))), (.mk (some 23) none (.m (.pu (.bin false .add (.t 22) (.c (.v (.int .i64 1))))))), (.mk (some 24) none (.m (.pu (.mv (.t 9))))), (.mk (some 25) none (.m (.pu (.len false (.t 24))))), (.mk (some 26) none (.m (.pu (.bin false .lss (.t 23) (.t 25)))))]) (.cd (.t 26) .sk (.fg ⟨[(10, none)], [(10, none), (77, none)]⟩ (.ex 0)))) (.sq (.bk 1 (.sq (.sq (.dr dr_ref18_Spans_0 [(0, [3]), (1, [4]), (2, []), (3, []), (4, []), (5, []), (6, []), (7, []), (8, [])] (.of [0, 1, 2, 3, 4, 5, 6, 7, 8])) (.cd (.t 37) (.fg ⟨[(2, some tI), (3, none), (4, none), (9, some (.sl tI)), (10, none), (11, some tI)], [(3, some tyPolicy), (4, some tyKeep), (10, none), (77, none)]⟩ (.ex 1)) .sk)) (.sq (.reg [(.mk (some 38) none (.m (.pu (.mv (.t 10))))), (.mk (some 39) none (.m (.pu (.len false (.t 38))))), (.mk (some 12) none (.m (.pu (.mv (.t 39)))))]) (.sq (.dr dr_ref18_Spans_1 [(0, []), (1, []), (2, []), (3, [10, 77]), (4, []), (5, []), (6, [10, 77]), (7, [10, 77]), (8, [10, 77]), (9, []), (10, []), (11, []), (12, []), (13, []), (14, [])] (.of [0, 1, 2, 3, 4, 5, 6, 7, 8, 9, 10, 11, 12, 13, 14])) (.cd (.t 54) (.reg [(.mk (some 55) none (.m (.pu (.mv (.t 10))))), (.mk (some 56) none (.m (.pu (.mv (.t 12))))), (.mk (some 57) none (.m (.pu (.bin false .sub (.t 56) (.c (.v (.int .i64 1))))))), (.mk (some 58) none (.m (.pu (.mv (.t 9))))), (.mk (some 59) none (.m (.pu (.mv (.t 11))))), (.mk (some 60) none (.m (.pu (.bin false .add (.t 59) (.c (.v (.int .i64 1))))))), (.mk (some 61) none (.m (.pu (.ix 1 (.t 58) (.t 60))))), (.mk (some 62) none (.m (.ld false 1 (.t 61)))), (.mk (some 63) none (.m (.pu (.ix 2 (.t 55) (.t 57))))), (.mk (some 64) none (.m (.pu (.fa 1 (.t 63))))), (.mk none none (.m (.st 1 (.t 64) (.t 62))))]) (.dr dr_ref18_Spans_2 [(0, [10, 77]), (1, []), (2, []), (3, []), (4, []), (5, []), (6, []), (7, []), (8, []), (9, []), (10, []), (11, []), (12, [10, 77, 5077, 10077, 15077]), (13, [10, 77])] (.of [0, 1, 2, 3, 4, 5, 6, 7, 8, 9, 10, 11, 12, 13]))))))) (.reg [(.mk (some 27) none (.m (.pu (.mv (.t 11))))), (.mk (some 28) none (.m (.pu (.bin false .add (.t 27) (.c (.v (.int .i64 1))))))), (.mk (some 11) none (.m (.pu (.mv (.t 28)))))])))
/-- cipherplan/cipherplanref18.Spans -/
def tc_ref18_Spans : TC := (.sq (.reg [(.mk (some 3) none (.m (.box (.t 0)))), (.mk (some 4) none (.m (.box (.t 1)))), (.mk (some 6) none (.m (.pu (.mv (.c (.v (.slice none 0 0))))))), (.mk (some 7) none (.m (.pu (.mv (.c (.v (.int .i64 0)))))))]) (.sq (.sq (.reg [(.mk (some 13) none (.m (.ld true 2 (.t 3)))), (.mk (some 14) none (.m (.ld true 2 (.t 4)))), (.mk (some 15) none (.m (.pu (.mv (.t 2))))), (.mk (some 16) none (.call 35 [(.t 13), (.t 14), (.t 15)])), (.mk (some 8) none (.m (.pu (.mv (.t 16)))))]) (.sq (.reg [(.mk (some 17) none (.m (.pu (.mv (.t 8))))), (.mk (some 18) none (.m (.pu (.bin false .neq (.t 17) (.c (.v (.int .i64 0)))))))]) (.cd (.t 18) (.sq (.reg [(.mk (some 19) none (.m (.pu (.mv (.t 8))))), (.mk (some 6) none (.m (.pu (.mv (.c (.v (.slice none 0 0))))))), (.mk (some 7) none (.m (.pu (.mv (.t 19)))))]) .rt) .sk))) (.sq (.reg [(.mk (some 20) none (.m (.ld true 2 (.t 3)))), (.mk (some 21) none (.call 36 [(.t 20)])), (.mk (some 9) none (.m (.pu (.mv (.t 21)))))]) (.sq (.reg [(.mk (some 10) none (.m (.pu (.mv (.c (.v (.slice none 0 0)))))))]) (.sq (.sq (.reg [(.mk (some 11) none (.m (.pu (.mv (.c (.v (.int .i64 0)))))))]) (.bk 0 (.nw 10 73 (.lp 0 fg_ref18_Spans_0 tb_ref18_Spans_0)))) (.sq (.reg [(.mk (some 78) none (.m (.pu (.mv (.t 10))))), (.mk (some 6) none (.m (.pu (.mv (.t 78))))), (.mk (some 7) none (.m (.pu (.mv (.c (.v (.int .i64 0)))))))]) .rt))))))
def rv_ref18_Spans : List (RV × Option Ty) := [((.t 6), some (.sl tyKeep)), ((.t 7), some tI)]
abbrev sh_ref18_Spans_0 : Sh := ⟨[(2, .ty tI), (3, .ptr 3 0), (4, .ptr 4 0), (9, .ty (.sl tI)), (10, .ms 10), (11, .ty tI)], [(3, .box tyPolicy), (4, .box tyKeep), (10, .arr 73 tyKeep), (77, .no)]⟩
def st_ref18_Spans_0 (x2 : Int) (x9 : (List Int)) (x11 : Int) (y3 : Policy) (y4 : Keep) (y10 : (List Keep)) : VS := sh_ref18_Spans_0.st (x2, (), (), x9, (), x11, ()) (y3, y4, y10, (), ())
abbrev sh_ref18_Spans_0_e0 : Sh := ⟨[(10, .ms 10)], [(10, .arr 73 tyKeep), (77, .no)]⟩
def st_ref18_Spans_0_e0 (y10 : (List Keep)) : VS := sh_ref18_Spans_0_e0.st ((), ()) (y10, (), ())
-- loop 0: (x2 : Int) (x9 : (List Int)) (x11 : Int) (y3 : Policy) (y4 : Keep) (y10 : (List Keep)); out: ('exit', 0) (y10 : (List Keep))
def L_ref18_Spans_0 : VS → Option (Bool × List (Bool × Exit × VS)) := mkL sh_ref18_Spans_0 (fun x y => (decide (0 ≤ x.2.2.2.2.2.1 ∧ x.2.2.2.2.2.1 + 1 ≤ x.2.2.2.1.length ∧ x.2.2.2.1.length ≤ 500000 ∧ y.1.1.length ≤ 100000 ∧ (y.2.2.1.length : Int) ≤ x.2.2.2.2.2.1))) (fun x y => [(true, .exit 0, st_ref18_Spans_0_e0 (spansL y.1 y.2.1 x.1 (x.2.2.2.1.drop x.2.2.2.2.2.1.toNat) y.2.2.1))])
def g_ref18_Spans : G := ⟨TYs, [], 79, EL [(35, sp_ref18_check), (36, sp_ref18_days), (37, sp_ref18_allowed)], keeps, (Ls [L_ref18_Spans_0]), IL [], RL []⟩
def b_ref18_Spans_0_1 (x2 : Int) (x9 : (List Int)) (x11 : Int) (y3 : Policy) (y4 : Keep) (y10 : (List Keep)) : Option (Exit × VS) :=
  br (cIx x9 x11)
    (br (cIx x9 (iadd .i64 x11 1))
      (br (cApp y10 ([((lgt tI x9 (Int.toNat x11)), ((lgt tI x9 (Int.toNat (iadd .i64 x11 1))), ()))]) 16)
        (some (.normal, st_ref18_Spans_0 x2 x9 (iadd .i64 x11 1) y3 y4 (y10 ++ ([((lgt tI x9 (Int.toNat x11)), ((lgt tI x9 (Int.toNat (iadd .i64 x11 1))), ()))]))))
        (none))
      (none))
    (none)
def b_ref18_Spans_0 (x2 : Int) (x9 : (List Int)) (x11 : Int) (y3 : Policy) (y4 : Keep) (y10 : (List Keep)) : Option (Exit × VS) :=
  br ((ilt (iadd .i64 x11 1) (llen x9)))
    (br (cIx x9 x11)
      (br ((polLen5 y3 y4 x2 (lgt tI x9 (Int.toNat x11))))
        (br ((!(allF y3 y4 x2 (lgt tI x9 (Int.toNat x11)))))
          (some (.normal, st_ref18_Spans_0 x2 x9 (iadd .i64 x11 1) y3 y4 y10))
          (br ((igt (llen y10) 0))
            (br (cIx y10 (isub .i64 (llen y10) 1))
              (br (cLd y10 (Int.toNat (isub .i64 (llen y10) 1)))
                (br (cIx x9 x11)
                  (br ((ieq (((lgt tyKeep y10 (Int.toNat (isub .i64 (llen y10) 1))).2).1) (lgt tI x9 (Int.toNat x11))))
                    (br (cIx x9 (iadd .i64 x11 1))
                      (br (cIx y10 (isub .i64 (llen y10) 1))
                        (br (cLd y10 (Int.toNat (isub .i64 (llen y10) 1)))
                          (some (.normal, st_ref18_Spans_0 x2 x9 (iadd .i64 x11 1) y3 y4 (List.set y10 (Int.toNat (isub .i64 (llen y10) 1)) ((lgt tyKeep y10 (Int.toNat (isub .i64 (llen y10) 1))).1, ((lgt tI x9 (Int.toNat (iadd .i64 x11 1))), ((lgt tyKeep y10 (Int.toNat (isub .i64 (llen y10) 1))).2).2)))))
                          (none))
                        (none))
                      (none))
                    (b_ref18_Spans_0_1 x2 x9 x11 y3 y4 y10))
                  (none))
                (none))
              (none))
            (b_ref18_Spans_0_1 x2 x9 x11 y3 y4 y10)))
        (none))
      (none))
    (some (.exit 0, st_ref18_Spans_0_e0 y10))
noncomputable def lp_ref18_Spans_0 (x2 : Int) (x9 : (List Int)) (x11 : Int) (y3 : Policy) (y4 : Keep) (y10 : (List Keep)) : Option (Exit × VS) := loopF (roundF g_ref18_Spans fg_ref18_Spans_0 tb_ref18_Spans_0) (st_ref18_Spans_0 x2 x9 x11 y3 y4 y10)
noncomputable def n_ref18_Spans_0_1 (x2 : Int) (x9 : (List Int)) (x11 : Int) (y3 : Policy) (y4 : Keep) (y10 : (List Keep)) : Option (Exit × VS) :=
  br (cIx x9 x11)
    (br (cIx x9 (iadd .i64 x11 1))
      (br (cApp y10 ([((lgt tI x9 (Int.toNat x11)), ((lgt tI x9 (Int.toNat (iadd .i64 x11 1))), ()))]) 16)
        (lp_ref18_Spans_0 x2 x9 (iadd .i64 x11 1) y3 y4 (y10 ++ ([((lgt tI x9 (Int.toNat x11)), ((lgt tI x9 (Int.toNat (iadd .i64 x11 1))), ()))])))
        (none))
      (none))
    (none)
noncomputable def n_ref18_Spans_0 (x2 : Int) (x9 : (List Int)) (x11 : Int) (y3 : Policy) (y4 : Keep) (y10 : (List Keep)) : Option (Exit × VS) :=
  br ((ilt (iadd .i64 x11 1) (llen x9)))
    (br (cIx x9 x11)
      (br ((polLen5 y3 y4 x2 (lgt tI x9 (Int.toNat x11))))
        (br ((!(allF y3 y4 x2 (lgt tI x9 (Int.toNat x11)))))
          (lp_ref18_Spans_0 x2 x9 (iadd .i64 x11 1) y3 y4 y10)
          (br ((igt (llen y10) 0))
            (br (cIx y10 (isub .i64 (llen y10) 1))
              (br (cLd y10 (Int.toNat (isub .i64 (llen y10) 1)))
                (br (cIx x9 x11)
                  (br ((ieq (((lgt tyKeep y10 (Int.toNat (isub .i64 (llen y10) 1))).2).1) (lgt tI x9 (Int.toNat x11))))
                    (br (cIx x9 (iadd .i64 x11 1))
                      (br (cIx y10 (isub .i64 (llen y10) 1))
                        (br (cLd y10 (Int.toNat (isub .i64 (llen y10) 1)))
                          (lp_ref18_Spans_0 x2 x9 (iadd .i64 x11 1) y3 y4 (List.set y10 (Int.toNat (isub .i64 (llen y10) 1)) ((lgt tyKeep y10 (Int.toNat (isub .i64 (llen y10) 1))).1, ((lgt tI x9 (Int.toNat (iadd .i64 x11 1))), ((lgt tyKeep y10 (Int.toNat (isub .i64 (llen y10) 1))).2).2))))
                          (none))
                        (none))
                      (none))
                    (n_ref18_Spans_0_1 x2 x9 x11 y3 y4 y10))
                  (none))
                (none))
              (none))
            (n_ref18_Spans_0_1 x2 x9 x11 y3 y4 y10)))
        (none))
      (none))
    (some (.exit 0, st_ref18_Spans_0_e0 y10))
def la_ref18_Spans_0 (x2 : Int) (x9 : (List Int)) (x11 : Int) (y3 : Policy) (y4 : Keep) (y10 : (List Keep)) : Option (Exit × VS) := some (.exit 0, st_ref18_Spans_0_e0 (spansL y3 y4 x2 (x9.drop x11.toNat) y10))
theorem be_ref18_Spans_0 (x2 : Int) (x9 : (List Int)) (x11 : Int) (y3 : Policy) (y4 : Keep) (y10 : (List Keep)) : roundF g_ref18_Spans fg_ref18_Spans_0 tb_ref18_Spans_0 (st_ref18_Spans_0 x2 x9 x11 y3 y4 y10) = b_ref18_Spans_0 x2 x9 x11 y3 y4 y10 := by kernel_rfl
theorem ln_ref18_Spans_0 (x2 : Int) (x9 : (List Int)) (x11 : Int) (y3 : Policy) (y4 : Keep) (y10 : (List Keep)) : lp_ref18_Spans_0 x2 x9 x11 y3 y4 y10 = n_ref18_Spans_0 x2 x9 x11 y3 y4 y10 := (loopF_nxt _ _).trans (by
  rw [be_ref18_Spans_0]
  simp only [b_ref18_Spans_0, b_ref18_Spans_0_1, n_ref18_Spans_0, n_ref18_Spans_0_1, nxt_br, nxt_n, nxt_r, nxt_e, nxt_0]
  rfl)
def r_ref18_Spans (p0 : Policy) (p1 : Keep) (p2 : Int) : Option (V × List VO) :=
  br ((polLen3 p0 p1 p2))
    (br ((ine (chk3 p0 p1 p2) 0))
      (some (.tu [(.t (.sl tyKeep) ([] : List Keep)), (.t tI (chk3 p0 p1 p2))], []))
      (br ((polLen p0))
        (br ((decide (0 ≤ (0 : Int) ∧ (0 : Int) + 1 ≤ (daysF p0).length ∧ (daysF p0).length ≤ 500000 ∧ p0.1.length ≤ 100000 ∧ (([] : List Keep).length : Int) ≤ (0 : Int))))
          (some (.tu [(.t (.sl tyKeep) (spansL p0 p1 p2 ((daysF p0).drop (0 : Int).toNat) ([] : List Keep))), (.t tI 0)], []))
          (none))
        (none)))
    (none)
theorem e_ref18_Spans (p0 : Policy) (p1 : Keep) (p2 : Int) : runF g_ref18_Spans tc_ref18_Spans rv_ref18_Spans false [.t tyPolicy p0, .t tyKeep p1, .t tI p2] [] = r_ref18_Spans p0 p1 p2 := by kernel_rfl
theorem ok_ref18_Spans : Option.map (trC Try.prog) Try.f25.body = some tc_ref18_Spans.er := by kernel_rfl
theorem rok_ref18_Spans : trVs Try.prog Try.f25.results.toList = some (rv_ref18_Spans.map Prod.fst) := by kernel_rfl
theorem en_ref18_Spans : Entered Try.prog 25 := .inr ⟨by decide, _, Try.func25, by kernel_rfl, by kernel_rfl⟩
theorem gk_ref18_Spans : GOk Try.prog g_ref18_Spans := gok_of _ (by
  intro p hp
  simp only [List.mem_cons, List.not_mem_nil, or_false] at hp
  rcases hp with rfl | rfl | rfl
  · exact ⟨en_ref18_check, ms_ref18_check⟩
  · exact ⟨en_ref18_days, ms_ref18_days⟩
  · exact ⟨en_ref18_allowed, ms_ref18_allowed⟩)
theorem l_ref18_Spans_0 (x2 : Int) (x9 : (List Int)) (x11 : Int) (y3 : Policy) (y4 : Keep) (y10 : (List Keep)) (h : (decide (0 ≤ x11 ∧ x11 + 1 ≤ x9.length ∧ x9.length ≤ 500000 ∧ y3.1.length ≤ 100000 ∧ (y10.length : Int) ≤ x11)) = true) : lp_ref18_Spans_0 x2 x9 x11 y3 y4 y10 = la_ref18_Spans_0 x2 x9 x11 y3 y4 y10 := by
  simp only [decide_eq_true_eq] at h
  obtain ⟨h1, h2, h3, h5, h4⟩ := h
  obtain ⟨k, rfl⟩ := Int.eq_ofNat_of_zero_le h1
  revert y10
  refine up_ind (x9.length - 1) (fun k => ∀ y10 : List Keep, (y10.length : Int) ≤ (k : Int) → lp_ref18_Spans_0 x2 x9 (k : Int) y3 y4 y10 = la_ref18_Spans_0 x2 x9 (k : Int) y3 y4 y10) ?_ ?_ k (by omega)
  · intro y7 _
    rw [ln_ref18_Spans_0]
    have e0 : iadd .i64 ((x9.length - 1 : Nat) : Int) 1 = ((x9.length - 1 + 1 : Nat) : Int) := add1 (by omega)
    have e1 : ilt (iadd .i64 ((x9.length - 1 : Nat) : Int) 1) (llen x9) = false := by rw [e0]; simp only [ilt, llen, decide_eq_false_iff_not]; omega
    have e2 : x9.drop (x9.length - 1) = [x9[x9.length - 1]'(by omega)] := by
      rw [List.drop_eq_getElem_cons (by omega)]
      congr 1
      exact List.drop_eq_nil_of_le (by omega)
    simp only [n_ref18_Spans_0, e1, br_false, la_ref18_Spans_0, Int.toNat_natCast, e2, spansL, spansZ]
  · intro k hk ih y7 hy
    rw [ln_ref18_Spans_0]
    have hk1 : k < x9.length := by omega
    have hk2 : k + 1 < x9.length := by omega
    have ea : iadd .i64 (k : Int) 1 = ((k + 1 : Nat) : Int) := add1 (by omega)
    have ep : ∀ d, polLen5 y3 y4 x2 d = true := fun d => by simp only [polLen5, lenOk5, decide_eq_true_eq]; exact h5
    simp only [n_ref18_Spans_0, n_ref18_Spans_0_1, ea, llen, ilt_nat, br_true, cIx_nat, hk1, hk2, decide_true, Int.toNat_natCast, lgt_get (y := tI) hk1, lgt_get (y := tI) hk2, ep]
    have hs := span_put (f := fun z => lp_ref18_Spans_0 x2 x9 ((k + 1 : Nat) : Int) y3 y4 z) y7 x9[k] x9[k + 1] (by omega)
    simp only [llen] at hs
    rw [hs]
    have el : la_ref18_Spans_0 x2 x9 (k : Int) y3 y4 y7 = la_ref18_Spans_0 x2 x9 ((k + 1 : Nat) : Int) y3 y4 (if allF y3 y4 x2 x9[k] then spanPut y7 x9[k] x9[k + 1] else y7) := by
      simp only [la_ref18_Spans_0, spansL, Int.toNat_natCast]
      rw [List.drop_eq_getElem_cons hk1, List.drop_eq_getElem_cons hk2]
      rfl
    rw [el]
    have hp := spanPut_len y7 x9[k] x9[k + 1]
    cases hc : allF y3 y4 x2 x9[k] with
    | true =>
      simp only [Bool.not_true, br_false, if_true]
      exact ih _ (by omega)
    | false =>
      simp only [Bool.not_false, br_true, Bool.false_eq_true, if_false]
      exact ih _ (by omega)
theorem lo_ref18_Spans_0 : ∀ S l p, g_ref18_Spans.L 0 (fgt fg_ref18_Spans_0 S) = some (true, l) → pickA l = some p → loopF (roundF g_ref18_Spans fg_ref18_Spans_0 tb_ref18_Spans_0) S = some p :=
  lok_of (s := sh_ref18_Spans_0) ⟨by decide, by decide⟩ (by kernel_rfl) fun x y hok p hp => by
  simp only [pickA_br, pickA_one] at hp
  exact (l_ref18_Spans_0 x.1 x.2.2.2.1 x.2.2.2.2.2.1 y.1 y.2.1 y.2.2.1 (by simpa using hok)).trans hp
theorem lk_ref18_Spans : tc_ref18_Spans.lok g_ref18_Spans := by
  repeat (first | exact trivial | exact lo_ref18_Spans_0 | refine ⟨?_, ?_⟩)
theorem s_ref18_Spans (y : Policy) (u : Keep) (p : Int) (h : polLen3 y u p = true) : r_ref18_Spans y u p = some (.tu [.t (.sl tyKeep) (SpansF y u p).1, .t tI (SpansF y u p).2], []) := by
  have h' : polLen y = true := h
  have h2 := h'
  simp only [polLen, lenOk5, Bool.and_eq_true, decide_eq_true_eq] at h2
  have hl : 2 ≤ (daysF y).length ∧ (daysF y).length ≤ 2 * y.1.length + 2 := cuts_len y.1
  simp only [r_ref18_Spans, h, h', br_true, SpansF, ine_dec, chk3, Int.toNat_zero, List.drop_zero]
  by_cases h0 : earlyF y u p 0 = 0
  · simp only [h0, ne_eq, not_true_eq_false, decide_false, br_false, if_true]
    rw [dec_true ⟨Int.le_refl 0, by omega, by omega, h2.1, by simp⟩, br_true]
    rfl
  · simp [h0, br_true]
def sp_ref18_Spans : Ent := spec (.pr tyPolicy (.pr tyKeep (.pr tI .nil))) (fun x => (polLen3 x.1 x.2.1 x.2.2.1)) (fun x => (.tu [(.t (.sl tyKeep) ((SpansF x.1 x.2.1 x.2.2.1).1)), (.t tI ((SpansF x.1 x.2.1 x.2.2.1).2))]))
theorem ms_ref18_Spans : Meets Try.prog 25 (strip sp_ref18_Spans) := by
  obtain ⟨c, hc, hi⟩ := Option.map_eq_some_iff.1 ok_ref18_Spans
  exact meets_spec (R := runF g_ref18_Spans tc_ref18_Spans rv_ref18_Spans false) (meets_of (by decide) Try.func25 hc hi Try.ntmps25 rok_ref18_Spans gk_ref18_Spans lk_ref18_Spans mixed) fun x hok => (e_ref18_Spans x.1 x.2.1 x.2.2.1).trans (s_ref18_Spans x.1 x.2.1 x.2.2.1 hok)
/-- cipherplan/cipherplanref18.Falls -/
def tc_ref18_Falls : TC := (.sq (.reg [(.mk (some 3) none (.m (.box (.t 0)))), (.mk (some 4) none (.m (.box (.t 1)))), (.mk (some 6) none (.m (.pu (.mv (.c (.v (.int .i64 0))))))), (.mk (some 7) none (.m (.pu (.mv (.c (.v (.bool false))))))), (.mk (some 8) none (.m (.pu (.mv (.c (.v (.int .i64 0)))))))]) (.sq (.reg [(.mk (some 13) none (.m (.ld true 2 (.t 3)))), (.mk (some 14) none (.m (.ld true 2 (.t 4)))), (.mk (some 15) none (.m (.pu (.mv (.t 2))))), (.mk (some 16) none (.call 25 [(.t 13), (.t 14), (.t 15)])), (.mk (some 12) none (.m (.pu (.mv (.t 16))))), (.mk (some 17) none (.m (.pu (.ext 0 (.t 12))))), (.mk (some 18) none (.m (.pu (.ext 1 (.t 12))))), (.mk (some 9) none (.m (.pu (.mv (.t 17))))), (.mk (some 10) none (.m (.pu (.mv (.t 18)))))]) (.sq (.sq (.reg [(.mk (some 19) none (.m (.pu (.mv (.t 10))))), (.mk (some 20) none (.m (.pu (.bin false .neq (.t 19) (.c (.v (.int .i64 0)))))))]) (.cd (.t 20) (.sq (.reg [(.mk (some 21) none (.m (.pu (.mv (.t 10))))), (.mk (some 6) none (.m (.pu (.mv (.c (.v (.int .i64 0))))))), (.mk (some 7) none (.m (.pu (.mv (.c (.v (.bool false))))))), (.mk (some 8) none (.m (.pu (.mv (.t 21)))))]) .rt) .sk)) (.sq (.sq (.reg [(.mk (some 22) none (.m (.pu (.mv (.t 9))))), (.mk (some 23) none (.m (.pu (.len false (.t 22))))), (.mk (some 24) none (.m (.pu (.bin false .eql (.t 23) (.c (.v (.int .i64 0)))))))]) (.cd (.t 24) (.sq (.reg [(.mk (some 6) none (.m (.pu (.mv (.c (.v (.int .i64 0))))))), (.mk (some 7) none (.m (.pu (.mv (.c (.v (.bool true))))))), (.mk (some 8) none (.m (.pu (.mv (.c (.v (.int .i64 0)))))))]) .rt) .sk)) (.sq (.sq (.reg [(.mk (some 25) none (.m (.pu (.mv (.t 9))))), (.mk (some 26) none (.m (.pu (.mv (.t 9))))), (.mk (some 27) none (.m (.pu (.len false (.t 26))))), (.mk (some 28) none (.m (.pu (.bin false .sub (.t 27) (.c (.v (.int .i64 1))))))), (.mk (some 29) none (.m (.pu (.ix 2 (.t 25) (.t 28))))), (.mk (some 30) none (.m (.pu (.fa 1 (.t 29))))), (.mk (some 31) none (.m (.ld false 1 (.t 30)))), (.mk (some 11) none (.m (.pu (.mv (.t 31)))))]) (.sq (.reg [(.mk (some 32) none (.m (.pu (.mv (.t 11))))), (.mk (some 33) none (.m (.pu (.bin false .leq (.t 32) (.c (.v (.int .i64 40000)))))))]) (.cd (.t 33) (.sq (.reg [(.mk (some 34) none (.m (.pu (.mv (.t 11))))), (.mk (some 6) none (.m (.pu (.mv (.t 34))))), (.mk (some 7) none (.m (.pu (.mv (.c (.v (.bool true))))))), (.mk (some 8) none (.m (.pu (.mv (.c (.v (.int .i64 0)))))))]) .rt) .sk))) (.sq (.reg [(.mk (some 6) none (.m (.pu (.mv (.c (.v (.int .i64 0))))))), (.mk (some 7) none (.m (.pu (.mv (.c (.v (.bool false))))))), (.mk (some 8) none (.m (.pu (.mv (.c (.v (.int .i64 0)))))))]) .rt))))))
def rv_ref18_Falls : List (RV × Option Ty) := [((.t 6), some tI), ((.t 7), some .bool), ((.t 8), some tI)]
def g_ref18_Falls : G := ⟨TYs, [], 35, EL [(25, sp_ref18_Spans)], keeps, (fun _ _ => none), IL [], RL []⟩
def r_ref18_Falls (p0 : Policy) (p1 : Keep) (p2 : Int) : Option (V × List VO) :=
  br ((polLen3 p0 p1 p2))
    (br ((ine ((SpansF p0 p1 p2).2) 0))
      (some (.tu [(.t tI 0), (.t .bool false), (.t tI ((SpansF p0 p1 p2).2))], []))
      (br ((ieq (llen ((SpansF p0 p1 p2).1)) 0))
        (some (.tu [(.t tI 0), (.t .bool true), (.t tI 0)], []))
        (br (cIx ((SpansF p0 p1 p2).1) (isub .i64 (llen ((SpansF p0 p1 p2).1)) 1))
          (br ((ile (((lgt tyKeep ((SpansF p0 p1 p2).1) (Int.toNat (isub .i64 (llen ((SpansF p0 p1 p2).1)) 1))).2).1) 40000))
            (some (.tu [(.t tI (((lgt tyKeep ((SpansF p0 p1 p2).1) (Int.toNat (isub .i64 (llen ((SpansF p0 p1 p2).1)) 1))).2).1)), (.t .bool true), (.t tI 0)], []))
            (some (.tu [(.t tI 0), (.t .bool false), (.t tI 0)], [])))
          (none))))
    (none)
theorem e_ref18_Falls (p0 : Policy) (p1 : Keep) (p2 : Int) : runF g_ref18_Falls tc_ref18_Falls rv_ref18_Falls false [.t tyPolicy p0, .t tyKeep p1, .t tI p2] [] = r_ref18_Falls p0 p1 p2 := by kernel_rfl
theorem ok_ref18_Falls : Option.map (trC Try.prog) Try.f13.body = some tc_ref18_Falls.er := by kernel_rfl
theorem rok_ref18_Falls : trVs Try.prog Try.f13.results.toList = some (rv_ref18_Falls.map Prod.fst) := by kernel_rfl
theorem en_ref18_Falls : Entered Try.prog 13 := .inr ⟨by decide, _, Try.func13, by kernel_rfl, by kernel_rfl⟩
theorem gk_ref18_Falls : GOk Try.prog g_ref18_Falls := gok_of _ (by
  intro p hp
  simp only [List.mem_cons, List.not_mem_nil, or_false] at hp
  rcases hp with rfl
  · exact ⟨en_ref18_Spans, ms_ref18_Spans⟩)
theorem lk_ref18_Falls : tc_ref18_Falls.lok g_ref18_Falls := by repeat (first | exact trivial | refine ⟨?_, ?_⟩)
theorem early_pol {y : Policy} {u : Keep} {p d : Int} (h : earlyF y u p d = 0) : polOk y = true ∧ validF u = true ∧ 1 ≤ p ∧ p ≤ 4 ∧ 0 ≤ d ∧ d ≤ 40000 := by
  unfold earlyF at h
  split at h
  · cases h
  · split at h
    · cases h
    · split at h
      · cases h
      · rename_i h1 h2 h3
        refine ⟨by simpa using h1, by simpa using h2, ?_⟩
        omega
theorem s_ref18_Falls (y : Policy) (u : Keep) (p : Int) (h : polLen3 y u p = true) : r_ref18_Falls y u p = some (.tu [.t tI (FallsF y u p).1, .t .bool (FallsF y u p).2.1, .t tI (FallsF y u p).2.2], []) := by
  have h5 : polLen y = true := h
  simp only [polLen, lenOk5, Bool.and_eq_true, decide_eq_true_eq] at h5
  have hl := spans_len y u p
  simp only [r_ref18_Falls, h, br_true, FallsF, SpansF, ine_dec]
  by_cases h0 : earlyF y u p 0 = 0
  · simp only [h0, ne_eq, not_true_eq_false, decide_false, br_false, if_true]
    rcases fall_cases (u := u) (p := p) (early_pol h0).1 with ⟨e, ef⟩ | ⟨l, s, e, g1, g2, g3, _, ef⟩
    · rw [ef, e]
      rfl
    · rw [ef]
      rw [e] at hl ⊢
      have e1 : isub .i64 (llen (l ++ [s])) 1 = (l.length : Int) := by
        have : llen (l ++ [s]) = (l.length : Int) + 1 := by simp [llen]
        rw [this, isub_in (by rw [List.length_append, List.length_singleton] at hl; omega)]
        omega
      have h2 : l.length < (l ++ [s]).length := by simp
      have e2 : ieq (llen (l ++ [s])) 0 = false := by simp only [ieq_dec, llen, List.length_append, List.length_singleton, decide_eq_false_iff_not]; omega
      have e4 : lgt tyKeep (l ++ [s]) l.length = s := by rw [lgt_get (y := tyKeep) h2]; simp
      rw [e1, e2]
      simp only [br_false, cIx_nat, h2, decide_true, br_true, Int.toNat_natCast, e4, ile]
      by_cases hs : s.2.1 ≤ 40000 <;> simp [hs, br_true, br_false]
  · simp [h0, br_true]
def sp_ref18_Falls : Ent := spec (.pr tyPolicy (.pr tyKeep (.pr tI .nil))) (fun x => (polLen3 x.1 x.2.1 x.2.2.1)) (fun x => (.tu [(.t tI ((FallsF x.1 x.2.1 x.2.2.1).1)), (.t .bool (((FallsF x.1 x.2.1 x.2.2.1).2).1)), (.t tI (((FallsF x.1 x.2.1 x.2.2.1).2).2))]))
theorem ms_ref18_Falls : Meets Try.prog 13 (strip sp_ref18_Falls) := by
  obtain ⟨c, hc, hi⟩ := Option.map_eq_some_iff.1 ok_ref18_Falls
  exact meets_spec (R := runF g_ref18_Falls tc_ref18_Falls rv_ref18_Falls false) (meets_of (by decide) Try.func13 hc hi Try.ntmps13 rok_ref18_Falls gk_ref18_Falls lk_ref18_Falls mixed) fun x hok => (e_ref18_Falls x.1 x.2.1 x.2.2.1).trans (s_ref18_Falls x.1 x.2.1 x.2.2.1 hok)

/-! lists of numbers -/
end Go.Proofs.Ytfehjdaielifiaa.K
