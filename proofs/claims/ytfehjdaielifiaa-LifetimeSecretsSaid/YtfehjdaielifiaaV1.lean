/-
  Functions of verdict and of its answer.
-/
import Derived.Test.YtfehjdaielifiaaM1
set_option linter.unusedSimpArgs false
set_option linter.unusedVariables false
namespace Go.Proofs.Ytfehjdaielifiaa.K
open Go.RowKit

/-! concerns, matches -/
def concerns (r : Rule) (u : Keep) (p : Int) : Bool := (r.Alg == 0 || r.Alg == u.1) && (r.Purpose == 0 || r.Purpose == p) && (r.Below == 0 || (decide (u.2.1 > 0) && decide (u.2.1 < r.Below)))
def within' (r : Rule) (day : Int) : Bool := decide (r.From ≤ day) && decide (day < r.To)
def matches' (r : Rule) (u : Keep) (p day : Int) : Bool := concerns r u p && within' r day
/-- cipherplan/verdict.concerns -/
def tc_verdict_concerns : TC := (.sq (.reg [(.mk (some 3) none (.m (.box (.t 0)))), (.mk (some 4) none (.m (.box (.t 1)))), (.mk (some 6) none (.m (.pu (.mv (.c (.v (.bool false)))))))]) (.sq (.sq (.reg [(.mk (some 7) none (.m (.pu (.fa 1 (.t 3))))), (.mk (some 8) none (.m (.ld false 1 (.t 7)))), (.mk (some 9) none (.m (.pu (.bin false .neq (.t 8) (.c (.v (.int .i64 0))))))), (.mk (some 10) none (.m (.pu (.mv (.t 9))))), (.mk (some 11) (some (10, true)) (.m (.pu (.fa 1 (.t 3))))), (.mk (some 12) (some (10, true)) (.m (.ld false 1 (.t 11)))), (.mk (some 13) (some (10, true)) (.m (.pu (.fa 0 (.t 4))))), (.mk (some 14) (some (10, true)) (.m (.ld false 1 (.t 13)))), (.mk (some 15) (some (10, true)) (.m (.pu (.bin false .neq (.t 12) (.t 14))))), (.mk (some 16) none (.m (.pu (.pick (.t 10) (.t 15) (.c (.v (.bool false))))))), (.mk (some 17) none (.m (.pu (.mv (.t 16))))), (.mk (some 18) (some (17, false)) (.m (.pu (.fa 3 (.t 3))))), (.mk (some 19) (some (17, false)) (.m (.ld false 1 (.t 18)))), (.mk (some 20) (some (17, false)) (.m (.pu (.bin false .neq (.t 19) (.c (.v (.int .i64 0))))))), (.mk (some 21) (some (17, false)) (.m (.pu (.mv (.t 20))))), (.mk (some 22) (some (21, true)) (.m (.pu (.fa 3 (.t 3))))), (.mk (some 23) (some (21, true)) (.m (.ld false 1 (.t 22)))), (.mk (some 24) (some (21, true)) (.m (.pu (.mv (.t 2))))), (.mk (some 25) (some (21, true)) (.m (.pu (.bin false .neq (.t 23) (.t 24))))), (.mk (some 26) (some (17, false)) (.m (.pu (.pick (.t 21) (.t 25) (.c (.v (.bool false))))))), (.mk (some 27) none (.m (.pu (.pick (.t 17) (.c (.v (.bool true))) (.t 26)))))]) (.cd (.t 27) (.sq (.reg [(.mk (some 6) none (.m (.pu (.mv (.c (.v (.bool false)))))))]) .rt) .sk)) (.sq (.reg [(.mk (some 28) none (.m (.pu (.fa 2 (.t 3))))), (.mk (some 29) none (.m (.ld false 1 (.t 28)))), (.mk (some 30) none (.m (.pu (.bin false .eql (.t 29) (.c (.v (.int .i64 0))))))), (.mk (some 31) none (.m (.pu (.mv (.t 30))))), (.mk (some 32) (some (31, false)) (.m (.pu (.fa 1 (.t 4))))), (.mk (some 33) (some (31, false)) (.m (.ld false 1 (.t 32)))), (.mk (some 34) (some (31, false)) (.m (.pu (.bin false .gtr (.t 33) (.c (.v (.int .i64 0))))))), (.mk (some 35) (some (31, false)) (.m (.pu (.mv (.t 34))))), (.mk (some 36) (some (35, true)) (.m (.pu (.fa 1 (.t 4))))), (.mk (some 37) (some (35, true)) (.m (.ld false 1 (.t 36)))), (.mk (some 38) (some (35, true)) (.m (.pu (.fa 2 (.t 3))))), (.mk (some 39) (some (35, true)) (.m (.ld false 1 (.t 38)))), (.mk (some 40) (some (35, true)) (.m (.pu (.bin false .lss (.t 37) (.t 39))))), (.mk (some 41) (some (31, false)) (.m (.pu (.pick (.t 35) (.t 40) (.c (.v (.bool false))))))), (.mk (some 42) none (.m (.pu (.pick (.t 31) (.c (.v (.bool true))) (.t 41))))), (.mk (some 6) none (.m (.pu (.mv (.t 42)))))]) .rt)))
def rv_verdict_concerns : List (RV × Option Ty) := [((.t 6), some .bool)]
def g_verdict_concerns : G := ⟨TYs, [], 43, EL [], keeps, (fun _ _ => none), IL [], RL []⟩
def r_verdict_concerns_2 (p0 : Rule) (p1 : Keep) (p2 : Int) : Option (V × List VO) :=
  br ((ieq p0.2.2.1 0))
    (some (.t .bool true, []))
    (br ((igt p1.2.1 0))
      (some (.t .bool (ilt p1.2.1 p0.2.2.1), []))
      (some (.t .bool false, [])))
def r_verdict_concerns_1 (p0 : Rule) (p1 : Keep) (p2 : Int) : Option (V × List VO) :=
  br ((ine p0.2.2.2.1 0))
    (br ((ine p0.2.2.2.1 p2))
      (some (.t .bool false, []))
      (r_verdict_concerns_2 p0 p1 p2))
    (r_verdict_concerns_2 p0 p1 p2)
def r_verdict_concerns (p0 : Rule) (p1 : Keep) (p2 : Int) : Option (V × List VO) :=
  br ((ine p0.2.1 0))
    (br ((ine p0.2.1 p1.1))
      (some (.t .bool false, []))
      (r_verdict_concerns_1 p0 p1 p2))
    (r_verdict_concerns_1 p0 p1 p2)
theorem e_verdict_concerns (p0 : Rule) (p1 : Keep) (p2 : Int) : runF g_verdict_concerns tc_verdict_concerns rv_verdict_concerns false [.t tyRule p0, .t tyKeep p1, .t tI p2] [] = r_verdict_concerns p0 p1 p2 := by kernel_rfl
theorem ok_verdict_concerns : Option.map (trC Try.prog) Try.f74.body = some tc_verdict_concerns.er := by kernel_rfl
theorem rok_verdict_concerns : trVs Try.prog Try.f74.results.toList = some (rv_verdict_concerns.map Prod.fst) := by kernel_rfl
theorem en_verdict_concerns : Entered Try.prog 74 := .inr ⟨by decide, _, Try.func74, by kernel_rfl, by kernel_rfl⟩
theorem gk_verdict_concerns : GOk Try.prog g_verdict_concerns := gok_of _ (fun p hp => by cases hp)
theorem lk_verdict_concerns : tc_verdict_concerns.lok g_verdict_concerns := by repeat (first | exact trivial | refine ⟨?_, ?_⟩)
theorem s_verdict_concerns (p0 : Rule) (p1 : Keep) (p2 : Int) : r_verdict_concerns p0 p1 p2 = some (.t .bool (concerns p0 p1 p2), []) := by
  simp only [r_verdict_concerns, r_verdict_concerns_1, r_verdict_concerns_2]
  repeat' (refine br_intro ?_ ?_ <;> intro _)
  all_goals (simp_all [concerns, Policy.Rules, Policy.Keeps, Item.Name, Item.Kind, Item.Purpose, Item.Links, Item.Until, Keep.Alg, Keep.Bits, Link.Use, Link.Day, Rule.Allow, Rule.Alg, Rule.Below, Rule.Purpose, Rule.From, Rule.To, Dice.L, Dice.At, LinkX.day, LinkX.fall, LinkX.falls, Row.name, Row.kind, Row.way, Row.sizes, Row.strengths] <;> omega)
def sp_verdict_concerns : Ent := spec (.pr tyRule (.pr tyKeep (.pr tI .nil))) (fun x => true) (fun x => (.t .bool (concerns x.1 x.2.1 x.2.2.1)))
theorem ms_verdict_concerns : Meets Try.prog 74 (strip sp_verdict_concerns) := by
  obtain ⟨c, hc, hi⟩ := Option.map_eq_some_iff.1 ok_verdict_concerns
  exact meets_spec (R := runF g_verdict_concerns tc_verdict_concerns rv_verdict_concerns false) (meets_of (by decide) Try.func74 hc hi Try.ntmps74 rok_verdict_concerns gk_verdict_concerns lk_verdict_concerns mixed) fun x _ => (e_verdict_concerns x.1 x.2.1 x.2.2.1).trans (s_verdict_concerns x.1 x.2.1 x.2.2.1)
/-- cipherplan/cipherplanref18.matches -/
def tc_ref18_matches : TC := (.sq (.reg [(.mk (some 4) none (.m (.box (.t 0)))), (.mk (some 5) none (.m (.box (.t 1)))), (.mk (some 8) none (.m (.pu (.mv (.c (.v (.bool false)))))))]) (.sq (.reg [(.mk (some 9) none (.m (.pu (.fa 1 (.t 4))))), (.mk (some 10) none (.m (.ld false 1 (.t 9)))), (.mk (some 11) none (.m (.pu (.bin false .eql (.t 10) (.c (.v (.int .i64 0))))))), (.mk (some 12) none (.m (.pu (.mv (.t 11))))), (.mk (some 13) (some (12, false)) (.m (.pu (.fa 1 (.t 4))))), (.mk (some 14) (some (12, false)) (.m (.ld false 1 (.t 13)))), (.mk (some 15) (some (12, false)) (.m (.pu (.fa 0 (.t 5))))), (.mk (some 16) (some (12, false)) (.m (.ld false 1 (.t 15)))), (.mk (some 17) (some (12, false)) (.m (.pu (.bin false .eql (.t 14) (.t 16))))), (.mk (some 18) none (.m (.pu (.pick (.t 12) (.c (.v (.bool true))) (.t 17))))), (.mk (some 19) none (.m (.pu (.mv (.t 18))))), (.mk (some 20) (some (19, true)) (.m (.pu (.fa 2 (.t 4))))), (.mk (some 21) (some (19, true)) (.m (.ld false 1 (.t 20)))), (.mk (some 22) (some (19, true)) (.m (.pu (.bin false .eql (.t 21) (.c (.v (.int .i64 0))))))), (.mk (some 23) (some (19, true)) (.m (.pu (.mv (.t 22))))), (.mk (some 24) (some (23, false)) (.m (.pu (.fa 1 (.t 5))))), (.mk (some 25) (some (23, false)) (.m (.ld false 1 (.t 24)))), (.mk (some 26) (some (23, false)) (.m (.pu (.bin false .gtr (.t 25) (.c (.v (.int .i64 0))))))), (.mk (some 27) (some (23, false)) (.m (.pu (.mv (.t 26))))), (.mk (some 28) (some (27, true)) (.m (.pu (.fa 1 (.t 5))))), (.mk (some 29) (some (27, true)) (.m (.ld false 1 (.t 28)))), (.mk (some 30) (some (27, true)) (.m (.pu (.fa 2 (.t 4))))), (.mk (some 31) (some (27, true)) (.m (.ld false 1 (.t 30)))), (.mk (some 32) (some (27, true)) (.m (.pu (.bin false .lss (.t 29) (.t 31))))), (.mk (some 33) (some (23, false)) (.m (.pu (.pick (.t 27) (.t 32) (.c (.v (.bool false))))))), (.mk (some 34) (some (19, true)) (.m (.pu (.pick (.t 23) (.c (.v (.bool true))) (.t 33))))), (.mk (some 35) none (.m (.pu (.pick (.t 19) (.t 34) (.c (.v (.bool false))))))), (.mk (some 36) none (.m (.pu (.mv (.t 35))))), (.mk (some 37) (some (36, true)) (.m (.pu (.fa 3 (.t 4))))), (.mk (some 38) (some (36, true)) (.m (.ld false 1 (.t 37)))), (.mk (some 39) (some (36, true)) (.m (.pu (.bin false .eql (.t 38) (.c (.v (.int .i64 0))))))), (.mk (some 40) (some (36, true)) (.m (.pu (.mv (.t 39))))), (.mk (some 41) (some (40, false)) (.m (.pu (.fa 3 (.t 4))))), (.mk (some 42) (some (40, false)) (.m (.ld false 1 (.t 41)))), (.mk (some 43) (some (40, false)) (.m (.pu (.mv (.t 2))))), (.mk (some 44) (some (40, false)) (.m (.pu (.bin false .eql (.t 42) (.t 43))))), (.mk (some 45) (some (36, true)) (.m (.pu (.pick (.t 40) (.c (.v (.bool true))) (.t 44))))), (.mk (some 46) none (.m (.pu (.pick (.t 36) (.t 45) (.c (.v (.bool false))))))), (.mk (some 47) none (.m (.pu (.mv (.t 46))))), (.mk (some 48) (some (47, true)) (.m (.pu (.mv (.t 3))))), (.mk (some 49) (some (47, true)) (.m (.pu (.fa 4 (.t 4))))), (.mk (some 50) (some (47, true)) (.m (.ld false 1 (.t 49)))), (.mk (some 51) (some (47, true)) (.m (.pu (.bin false .geq (.t 48) (.t 50))))), (.mk (some 52) none (.m (.pu (.pick (.t 47) (.t 51) (.c (.v (.bool false))))))), (.mk (some 53) none (.m (.pu (.mv (.t 52))))), (.mk (some 54) (some (53, true)) (.m (.pu (.mv (.t 3))))), (.mk (some 55) (some (53, true)) (.m (.pu (.fa 5 (.t 4))))), (.mk (some 56) (some (53, true)) (.m (.ld false 1 (.t 55)))), (.mk (some 57) (some (53, true)) (.m (.pu (.bin false .lss (.t 54) (.t 56))))), (.mk (some 58) none (.m (.pu (.pick (.t 53) (.t 57) (.c (.v (.bool false))))))), (.mk (some 8) none (.m (.pu (.mv (.t 58)))))]) .rt))
def rv_ref18_matches : List (RV × Option Ty) := [((.t 8), some .bool)]
def g_ref18_matches : G := ⟨TYs, [], 59, EL [], keeps, (fun _ _ => none), IL [], RL []⟩
def r_ref18_matches_3 (p0 : Rule) (p1 : Keep) (p2 : Int) (p3 : Int) : Option (V × List VO) :=
  br ((ige p3 p0.2.2.2.2.1))
    (some (.t .bool (ilt p3 p0.2.2.2.2.2.1), []))
    (some (.t .bool false, []))
def r_ref18_matches_2 (p0 : Rule) (p1 : Keep) (p2 : Int) (p3 : Int) : Option (V × List VO) :=
  br ((ieq p0.2.2.2.1 0))
    (r_ref18_matches_3 p0 p1 p2 p3)
    (br ((ieq p0.2.2.2.1 p2))
      (r_ref18_matches_3 p0 p1 p2 p3)
      (some (.t .bool false, [])))
def r_ref18_matches_1 (p0 : Rule) (p1 : Keep) (p2 : Int) (p3 : Int) : Option (V × List VO) :=
  br ((ieq p0.2.2.1 0))
    (r_ref18_matches_2 p0 p1 p2 p3)
    (br ((igt p1.2.1 0))
      (br ((ilt p1.2.1 p0.2.2.1))
        (r_ref18_matches_2 p0 p1 p2 p3)
        (some (.t .bool false, [])))
      (some (.t .bool false, [])))
def r_ref18_matches (p0 : Rule) (p1 : Keep) (p2 : Int) (p3 : Int) : Option (V × List VO) :=
  br ((ieq p0.2.1 0))
    (r_ref18_matches_1 p0 p1 p2 p3)
    (br ((ieq p0.2.1 p1.1))
      (r_ref18_matches_1 p0 p1 p2 p3)
      (some (.t .bool false, [])))
theorem e_ref18_matches (p0 : Rule) (p1 : Keep) (p2 : Int) (p3 : Int) : runF g_ref18_matches tc_ref18_matches rv_ref18_matches false [.t tyRule p0, .t tyKeep p1, .t tI p2, .t tI p3] [] = r_ref18_matches p0 p1 p2 p3 := by kernel_rfl
theorem ok_ref18_matches : Option.map (trC Try.prog) Try.f66.body = some tc_ref18_matches.er := by kernel_rfl
theorem rok_ref18_matches : trVs Try.prog Try.f66.results.toList = some (rv_ref18_matches.map Prod.fst) := by kernel_rfl
theorem en_ref18_matches : Entered Try.prog 66 := .inr ⟨by decide, _, Try.func66, by kernel_rfl, by kernel_rfl⟩
theorem gk_ref18_matches : GOk Try.prog g_ref18_matches := gok_of _ (fun p hp => by cases hp)
theorem lk_ref18_matches : tc_ref18_matches.lok g_ref18_matches := by repeat (first | exact trivial | refine ⟨?_, ?_⟩)
theorem s_ref18_matches (p0 : Rule) (p1 : Keep) (p2 p3 : Int) : r_ref18_matches p0 p1 p2 p3 = some (.t .bool (matches' p0 p1 p2 p3), []) := by
  simp only [r_ref18_matches, r_ref18_matches_1, r_ref18_matches_2, r_ref18_matches_3]
  repeat' (refine br_intro ?_ ?_ <;> intro _)
  all_goals (simp_all [matches', concerns, within', Policy.Rules, Policy.Keeps, Item.Name, Item.Kind, Item.Purpose, Item.Links, Item.Until, Keep.Alg, Keep.Bits, Link.Use, Link.Day, Rule.Allow, Rule.Alg, Rule.Below, Rule.Purpose, Rule.From, Rule.To, Dice.L, Dice.At, LinkX.day, LinkX.fall, LinkX.falls, Row.name, Row.kind, Row.way, Row.sizes, Row.strengths] <;> omega)
def sp_ref18_matches : Ent := spec (.pr tyRule (.pr tyKeep (.pr tI (.pr tI .nil)))) (fun x => true) (fun x => (.t .bool (matches' x.1 x.2.1 x.2.2.1 x.2.2.2.1)))
theorem ms_ref18_matches : Meets Try.prog 66 (strip sp_ref18_matches) := by
  obtain ⟨c, hc, hi⟩ := Option.map_eq_some_iff.1 ok_ref18_matches
  exact meets_spec (R := runF g_ref18_matches tc_ref18_matches rv_ref18_matches false) (meets_of (by decide) Try.func66 hc hi Try.ntmps66 rok_ref18_matches gk_ref18_matches lk_ref18_matches mixed) fun x _ => (e_ref18_matches x.1 x.2.1 x.2.2.1 x.2.2.2.1).trans (s_ref18_matches x.1 x.2.1 x.2.2.1 x.2.2.2.1)

/-! SameSpans -/
def same (a b : List Keep) : Bool := a == b
end Go.Proofs.Ytfehjdaielifiaa.K
