/-
  Which policies are valid, by the program and by its answer.
-/
import Derived.Test.YtfehjdaielifiaaV6
set_option linter.unusedSimpArgs false
set_option linter.unusedVariables false
namespace Go.Proofs.Ytfehjdaielifiaa.K
open Go.RowKit
def ruledF (r : Rule) : Bool := decide (0 ≤ r.Alg ∧ r.Alg ≤ 22 ∧ 0 ≤ r.Below ∧ r.Below ≤ 16384 ∧ 0 ≤ r.Purpose ∧ r.Purpose ≤ 4 ∧ 0 ≤ r.From ∧ r.From < r.To ∧ r.To ≤ 40001)
def keptF (k : Keep) : Bool := decide (1 ≤ k.1 ∧ k.1 ≤ 4 ∧ 0 ≤ k.2.1 ∧ k.2.1 ≤ 40000)
def ruledN (r : Rule) : Bool := !ruledF r
def keptN (k : Keep) : Bool := !keptF k
/-- cipherplan/rule.ruled -/
def tc_rule_ruled : TC := (.sq (.reg [(.mk (some 1) none (.m (.box (.t 0)))), (.mk (some 2) none (.m (.pu (.mv (.c (.v (.bool false)))))))]) (.sq (.reg [(.mk (some 3) none (.m (.pu (.fa 1 (.t 1))))), (.mk (some 4) none (.m (.ld false 1 (.t 3)))), (.mk (some 5) none (.m (.pu (.bin false .geq (.t 4) (.c (.v (.int .i64 0))))))), (.mk (some 6) none (.m (.pu (.mv (.t 5))))), (.mk (some 7) (some (6, true)) (.m (.pu (.fa 1 (.t 1))))), (.mk (some 8) (some (6, true)) (.m (.ld false 1 (.t 7)))), (.mk (some 9) (some (6, true)) (.m (.pu (.bin false .leq (.t 8) (.c (.v (.int .i64 22))))))), (.mk (some 10) none (.m (.pu (.pick (.t 6) (.t 9) (.c (.v (.bool false))))))), (.mk (some 11) none (.m (.pu (.mv (.t 10))))), (.mk (some 12) (some (11, true)) (.m (.pu (.fa 2 (.t 1))))), (.mk (some 13) (some (11, true)) (.m (.ld false 1 (.t 12)))), (.mk (some 14) (some (11, true)) (.m (.pu (.bin false .geq (.t 13) (.c (.v (.int .i64 0))))))), (.mk (some 15) none (.m (.pu (.pick (.t 11) (.t 14) (.c (.v (.bool false))))))), (.mk (some 16) none (.m (.pu (.mv (.t 15))))), (.mk (some 17) (some (16, true)) (.m (.pu (.fa 2 (.t 1))))), (.mk (some 18) (some (16, true)) (.m (.ld false 1 (.t 17)))), (.mk (some 19) (some (16, true)) (.m (.pu (.bin false .leq (.t 18) (.c (.v (.int .i64 16384))))))), (.mk (some 20) none (.m (.pu (.pick (.t 16) (.t 19) (.c (.v (.bool false))))))), (.mk (some 21) none (.m (.pu (.mv (.t 20))))), (.mk (some 22) (some (21, true)) (.m (.pu (.fa 3 (.t 1))))), (.mk (some 23) (some (21, true)) (.m (.ld false 1 (.t 22)))), (.mk (some 24) (some (21, true)) (.m (.pu (.bin false .geq (.t 23) (.c (.v (.int .i64 0))))))), (.mk (some 25) none (.m (.pu (.pick (.t 21) (.t 24) (.c (.v (.bool false))))))), (.mk (some 26) none (.m (.pu (.mv (.t 25))))), (.mk (some 27) (some (26, true)) (.m (.pu (.fa 3 (.t 1))))), (.mk (some 28) (some (26, true)) (.m (.ld false 1 (.t 27)))), (.mk (some 29) (some (26, true)) (.m (.pu (.bin false .leq (.t 28) (.c (.v (.int .i64 4))))))), (.mk (some 30) none (.m (.pu (.pick (.t 26) (.t 29) (.c (.v (.bool false))))))), (.mk (some 31) none (.m (.pu (.mv (.t 30))))), (.mk (some 32) (some (31, true)) (.m (.pu (.fa 4 (.t 1))))), (.mk (some 33) (some (31, true)) (.m (.ld false 1 (.t 32)))), (.mk (some 34) (some (31, true)) (.m (.pu (.bin false .geq (.t 33) (.c (.v (.int .i64 0))))))), (.mk (some 35) none (.m (.pu (.pick (.t 31) (.t 34) (.c (.v (.bool false))))))), (.mk (some 36) none (.m (.pu (.mv (.t 35))))), (.mk (some 37) (some (36, true)) (.m (.pu (.fa 4 (.t 1))))), (.mk (some 38) (some (36, true)) (.m (.ld false 1 (.t 37)))), (.mk (some 39) (some (36, true)) (.m (.pu (.fa 5 (.t 1))))), (.mk (some 40) (some (36, true)) (.m (.ld false 1 (.t 39)))), (.mk (some 41) (some (36, true)) (.m (.pu (.bin false .lss (.t 38) (.t 40))))), (.mk (some 42) none (.m (.pu (.pick (.t 36) (.t 41) (.c (.v (.bool false))))))), (.mk (some 43) none (.m (.pu (.mv (.t 42))))), (.mk (some 44) (some (43, true)) (.m (.pu (.fa 5 (.t 1))))), (.mk (some 45) (some (43, true)) (.m (.ld false 1 (.t 44)))), (.mk (some 46) (some (43, true)) (.m (.pu (.bin false .leq (.t 45) (.c (.v (.int .i64 40001))))))), (.mk (some 47) none (.m (.pu (.pick (.t 43) (.t 46) (.c (.v (.bool false))))))), (.mk (some 2) none (.m (.pu (.mv (.t 47)))))]) .rt))
def rv_rule_ruled : List (RV × Option Ty) := [((.t 2), some .bool)]
def g_rule_ruled : G := ⟨TYs, [], 48, EL [], keeps, (fun _ _ => none), IL [], RL []⟩
def r_rule_ruled (p0 : Rule) : Option (V × List VO) :=
  br ((ige p0.2.1 0))
    (br ((ile p0.2.1 22))
      (br ((ige p0.2.2.1 0))
        (br ((ile p0.2.2.1 16384))
          (br ((ige p0.2.2.2.1 0))
            (br ((ile p0.2.2.2.1 4))
              (br ((ige p0.2.2.2.2.1 0))
                (br ((ilt p0.2.2.2.2.1 p0.2.2.2.2.2.1))
                  (some (.t .bool (ile p0.2.2.2.2.2.1 40001), []))
                  (some (.t .bool false, [])))
                (some (.t .bool false, [])))
              (some (.t .bool false, [])))
            (some (.t .bool false, [])))
          (some (.t .bool false, [])))
        (some (.t .bool false, [])))
      (some (.t .bool false, [])))
    (some (.t .bool false, []))
theorem e_rule_ruled (p0 : Rule) : runF g_rule_ruled tc_rule_ruled rv_rule_ruled false [.t tyRule p0] [] = r_rule_ruled p0 := by kernel_rfl
theorem ok_rule_ruled : Option.map (trC Try.prog) Try.f45.body = some tc_rule_ruled.er := by kernel_rfl
theorem rok_rule_ruled : trVs Try.prog Try.f45.results.toList = some (rv_rule_ruled.map Prod.fst) := by kernel_rfl
theorem en_rule_ruled : Entered Try.prog 45 := .inr ⟨by decide, _, Try.func45, by kernel_rfl, by kernel_rfl⟩
theorem gk_rule_ruled : GOk Try.prog g_rule_ruled := gok_of _ (fun p hp => by cases hp)
theorem lk_rule_ruled : tc_rule_ruled.lok g_rule_ruled := by repeat (first | exact trivial | refine ⟨?_, ?_⟩)
theorem s_rule_ruled (r : Rule) : r_rule_ruled r = some (.t .bool (ruledF r), []) := by
  simp only [r_rule_ruled]
  repeat' (refine br_intro ?_ ?_ <;> intro _)
  all_goals simp only [ige, ile, ilt, decide_eq_true_eq, decide_eq_false_iff_not, Policy.Rules, Policy.Keeps, Item.Name, Item.Kind, Item.Purpose, Item.Links, Item.Until, Keep.Alg, Keep.Bits, Link.Use, Link.Day, Rule.Allow, Rule.Alg, Rule.Below, Rule.Purpose, Rule.From, Rule.To, Dice.L, Dice.At, LinkX.day, LinkX.fall, LinkX.falls, Row.name, Row.kind, Row.way, Row.sizes, Row.strengths] at *
  all_goals (apply some_b; unfold ruledF; rw [Bool.eq_iff_iff]; simp only [ige, ile, ilt, decide_eq_true_eq, Policy.Rules, Policy.Keeps, Item.Name, Item.Kind, Item.Purpose, Item.Links, Item.Until, Keep.Alg, Keep.Bits, Link.Use, Link.Day, Rule.Allow, Rule.Alg, Rule.Below, Rule.Purpose, Rule.From, Rule.To, Dice.L, Dice.At, LinkX.day, LinkX.fall, LinkX.falls, Row.name, Row.kind, Row.way, Row.sizes, Row.strengths, Bool.false_eq_true, false_iff]; omega)
def sp_rule_ruled : Ent := spec (.pr tyRule .nil) (fun x => true) (fun x => (.t .bool (ruledF x.1)))
theorem ms_rule_ruled : Meets Try.prog 45 (strip sp_rule_ruled) := by
  obtain ⟨c, hc, hi⟩ := Option.map_eq_some_iff.1 ok_rule_ruled
  exact meets_spec (R := runF g_rule_ruled tc_rule_ruled rv_rule_ruled false) (meets_of (by decide) Try.func45 hc hi Try.ntmps45 rok_rule_ruled gk_rule_ruled lk_rule_ruled mixed) fun x _ => (e_rule_ruled x.1).trans (s_rule_ruled x.1)
/-- cipherplan/rule.kept -/
def tc_rule_kept : TC := (.sq (.reg [(.mk (some 1) none (.m (.box (.t 0)))), (.mk (some 2) none (.m (.pu (.mv (.c (.v (.bool false)))))))]) (.sq (.reg [(.mk (some 3) none (.m (.pu (.fa 0 (.t 1))))), (.mk (some 4) none (.m (.ld false 1 (.t 3)))), (.mk (some 5) none (.m (.pu (.bin false .geq (.t 4) (.c (.v (.int .i64 1))))))), (.mk (some 6) none (.m (.pu (.mv (.t 5))))), (.mk (some 7) (some (6, true)) (.m (.pu (.fa 0 (.t 1))))), (.mk (some 8) (some (6, true)) (.m (.ld false 1 (.t 7)))), (.mk (some 9) (some (6, true)) (.m (.pu (.bin false .leq (.t 8) (.c (.v (.int .i64 4))))))), (.mk (some 10) none (.m (.pu (.pick (.t 6) (.t 9) (.c (.v (.bool false))))))), (.mk (some 11) none (.m (.pu (.mv (.t 10))))), (.mk (some 12) (some (11, true)) (.m (.pu (.fa 1 (.t 1))))), (.mk (some 13) (some (11, true)) (.m (.ld false 1 (.t 12)))), (.mk (some 14) (some (11, true)) (.m (.pu (.bin false .geq (.t 13) (.c (.v (.int .i64 0))))))), (.mk (some 15) none (.m (.pu (.pick (.t 11) (.t 14) (.c (.v (.bool false))))))), (.mk (some 16) none (.m (.pu (.mv (.t 15))))), (.mk (some 17) (some (16, true)) (.m (.pu (.fa 1 (.t 1))))), (.mk (some 18) (some (16, true)) (.m (.ld false 1 (.t 17)))), (.mk (some 19) (some (16, true)) (.m (.pu (.bin false .leq (.t 18) (.c (.v (.int .i64 40000))))))), (.mk (some 20) none (.m (.pu (.pick (.t 16) (.t 19) (.c (.v (.bool false))))))), (.mk (some 2) none (.m (.pu (.mv (.t 20)))))]) .rt))
def rv_rule_kept : List (RV × Option Ty) := [((.t 2), some .bool)]
def g_rule_kept : G := ⟨TYs, [], 21, EL [], keeps, (fun _ _ => none), IL [], RL []⟩
def r_rule_kept (p0 : Keep) : Option (V × List VO) :=
  br ((ige p0.1 1))
    (br ((ile p0.1 4))
      (br ((ige p0.2.1 0))
        (some (.t .bool (ile p0.2.1 40000), []))
        (some (.t .bool false, [])))
      (some (.t .bool false, [])))
    (some (.t .bool false, []))
theorem e_rule_kept (p0 : Keep) : runF g_rule_kept tc_rule_kept rv_rule_kept false [.t tyKeep p0] [] = r_rule_kept p0 := by kernel_rfl
theorem ok_rule_kept : Option.map (trC Try.prog) Try.f48.body = some tc_rule_kept.er := by kernel_rfl
theorem rok_rule_kept : trVs Try.prog Try.f48.results.toList = some (rv_rule_kept.map Prod.fst) := by kernel_rfl
theorem en_rule_kept : Entered Try.prog 48 := .inr ⟨by decide, _, Try.func48, by kernel_rfl, by kernel_rfl⟩
theorem gk_rule_kept : GOk Try.prog g_rule_kept := gok_of _ (fun p hp => by cases hp)
theorem lk_rule_kept : tc_rule_kept.lok g_rule_kept := by repeat (first | exact trivial | refine ⟨?_, ?_⟩)
theorem s_rule_kept (r : Keep) : r_rule_kept r = some (.t .bool (keptF r), []) := by
  simp only [r_rule_kept]
  repeat' (refine br_intro ?_ ?_ <;> intro _)
  all_goals simp only [ige, ile, ilt, decide_eq_true_eq, decide_eq_false_iff_not, Policy.Rules, Policy.Keeps, Item.Name, Item.Kind, Item.Purpose, Item.Links, Item.Until, Keep.Alg, Keep.Bits, Link.Use, Link.Day, Rule.Allow, Rule.Alg, Rule.Below, Rule.Purpose, Rule.From, Rule.To, Dice.L, Dice.At, LinkX.day, LinkX.fall, LinkX.falls, Row.name, Row.kind, Row.way, Row.sizes, Row.strengths] at *
  all_goals (apply some_b; unfold keptF; rw [Bool.eq_iff_iff]; simp only [ige, ile, ilt, decide_eq_true_eq, Policy.Rules, Policy.Keeps, Item.Name, Item.Kind, Item.Purpose, Item.Links, Item.Until, Keep.Alg, Keep.Bits, Link.Use, Link.Day, Rule.Allow, Rule.Alg, Rule.Below, Rule.Purpose, Rule.From, Rule.To, Dice.L, Dice.At, LinkX.day, LinkX.fall, LinkX.falls, Row.name, Row.kind, Row.way, Row.sizes, Row.strengths, Bool.false_eq_true, false_iff]; omega)
def sp_rule_kept : Ent := spec (.pr tyKeep .nil) (fun x => true) (fun x => (.t .bool (keptF x.1)))
theorem ms_rule_kept : Meets Try.prog 48 (strip sp_rule_kept) := by
  obtain ⟨c, hc, hi⟩ := Option.map_eq_some_iff.1 ok_rule_kept
  exact meets_spec (R := runF g_rule_kept tc_rule_kept rv_rule_kept false) (meets_of (by decide) Try.func48 hc hi Try.ntmps48 rok_rule_kept gk_rule_kept lk_rule_kept mixed) fun x _ => (e_rule_kept x.1).trans (s_rule_kept x.1)
/-- cipherplan/cipherplanref17.Ruled -/
def tc_ref17_Ruled : TC := (.sq (.reg [(.mk (some 1) none (.m (.box (.t 0)))), (.mk (some 2) none (.m (.pu (.mv (.c (.v (.bool false)))))))]) (.sq (.reg [(.mk (some 3) none (.m (.pu (.fa 1 (.t 1))))), (.mk (some 4) none (.m (.ld false 1 (.t 3)))), (.mk (some 5) none (.m (.pu (.bin false .geq (.t 4) (.c (.v (.int .i64 0))))))), (.mk (some 6) none (.m (.pu (.mv (.t 5))))), (.mk (some 7) (some (6, true)) (.m (.pu (.fa 1 (.t 1))))), (.mk (some 8) (some (6, true)) (.m (.ld false 1 (.t 7)))), (.mk (some 9) (some (6, true)) (.m (.pu (.bin false .leq (.t 8) (.c (.v (.int .i64 22))))))), (.mk (some 10) none (.m (.pu (.pick (.t 6) (.t 9) (.c (.v (.bool false))))))), (.mk (some 11) none (.m (.pu (.mv (.t 10))))), (.mk (some 12) (some (11, true)) (.m (.pu (.fa 2 (.t 1))))), (.mk (some 13) (some (11, true)) (.m (.ld false 1 (.t 12)))), (.mk (some 14) (some (11, true)) (.m (.pu (.bin false .geq (.t 13) (.c (.v (.int .i64 0))))))), (.mk (some 15) none (.m (.pu (.pick (.t 11) (.t 14) (.c (.v (.bool false))))))), (.mk (some 16) none (.m (.pu (.mv (.t 15))))), (.mk (some 17) (some (16, true)) (.m (.pu (.fa 2 (.t 1))))), (.mk (some 18) (some (16, true)) (.m (.ld false 1 (.t 17)))), (.mk (some 19) (some (16, true)) (.m (.pu (.bin false .leq (.t 18) (.c (.v (.int .i64 16384))))))), (.mk (some 20) none (.m (.pu (.pick (.t 16) (.t 19) (.c (.v (.bool false))))))), (.mk (some 21) none (.m (.pu (.mv (.t 20))))), (.mk (some 22) (some (21, true)) (.m (.pu (.fa 3 (.t 1))))), (.mk (some 23) (some (21, true)) (.m (.ld false 1 (.t 22)))), (.mk (some 24) (some (21, true)) (.m (.pu (.bin false .geq (.t 23) (.c (.v (.int .i64 0))))))), (.mk (some 25) none (.m (.pu (.pick (.t 21) (.t 24) (.c (.v (.bool false))))))), (.mk (some 26) none (.m (.pu (.mv (.t 25))))), (.mk (some 27) (some (26, true)) (.m (.pu (.fa 3 (.t 1))))), (.mk (some 28) (some (26, true)) (.m (.ld false 1 (.t 27)))), (.mk (some 29) (some (26, true)) (.m (.pu (.bin false .leq (.t 28) (.c (.v (.int .i64 4))))))), (.mk (some 30) none (.m (.pu (.pick (.t 26) (.t 29) (.c (.v (.bool false))))))), (.mk (some 31) none (.m (.pu (.mv (.t 30))))), (.mk (some 32) (some (31, true)) (.m (.pu (.fa 4 (.t 1))))), (.mk (some 33) (some (31, true)) (.m (.ld false 1 (.t 32)))), (.mk (some 34) (some (31, true)) (.m (.pu (.bin false .geq (.t 33) (.c (.v (.int .i64 0))))))), (.mk (some 35) none (.m (.pu (.pick (.t 31) (.t 34) (.c (.v (.bool false))))))), (.mk (some 36) none (.m (.pu (.mv (.t 35))))), (.mk (some 37) (some (36, true)) (.m (.pu (.fa 4 (.t 1))))), (.mk (some 38) (some (36, true)) (.m (.ld false 1 (.t 37)))), (.mk (some 39) (some (36, true)) (.m (.pu (.fa 5 (.t 1))))), (.mk (some 40) (some (36, true)) (.m (.ld false 1 (.t 39)))), (.mk (some 41) (some (36, true)) (.m (.pu (.bin false .lss (.t 38) (.t 40))))), (.mk (some 42) none (.m (.pu (.pick (.t 36) (.t 41) (.c (.v (.bool false))))))), (.mk (some 43) none (.m (.pu (.mv (.t 42))))), (.mk (some 44) (some (43, true)) (.m (.pu (.fa 5 (.t 1))))), (.mk (some 45) (some (43, true)) (.m (.ld false 1 (.t 44)))), (.mk (some 46) (some (43, true)) (.m (.pu (.bin false .leq (.t 45) (.c (.v (.int .i64 40001))))))), (.mk (some 47) none (.m (.pu (.pick (.t 43) (.t 46) (.c (.v (.bool false))))))), (.mk (some 2) none (.m (.pu (.mv (.t 47)))))]) .rt))
def rv_ref17_Ruled : List (RV × Option Ty) := [((.t 2), some .bool)]
def g_ref17_Ruled : G := ⟨TYs, [], 48, EL [], keeps, (fun _ _ => none), IL [], RL []⟩
def r_ref17_Ruled (p0 : Rule) : Option (V × List VO) :=
  br ((ige p0.2.1 0))
    (br ((ile p0.2.1 22))
      (br ((ige p0.2.2.1 0))
        (br ((ile p0.2.2.1 16384))
          (br ((ige p0.2.2.2.1 0))
            (br ((ile p0.2.2.2.1 4))
              (br ((ige p0.2.2.2.2.1 0))
                (br ((ilt p0.2.2.2.2.1 p0.2.2.2.2.2.1))
                  (some (.t .bool (ile p0.2.2.2.2.2.1 40001), []))
                  (some (.t .bool false, [])))
                (some (.t .bool false, [])))
              (some (.t .bool false, [])))
            (some (.t .bool false, [])))
          (some (.t .bool false, [])))
        (some (.t .bool false, [])))
      (some (.t .bool false, [])))
    (some (.t .bool false, []))
theorem e_ref17_Ruled (p0 : Rule) : runF g_ref17_Ruled tc_ref17_Ruled rv_ref17_Ruled false [.t tyRule p0] [] = r_ref17_Ruled p0 := by kernel_rfl
theorem ok_ref17_Ruled : Option.map (trC Try.prog) Try.f64.body = some tc_ref17_Ruled.er := by kernel_rfl
theorem rok_ref17_Ruled : trVs Try.prog Try.f64.results.toList = some (rv_ref17_Ruled.map Prod.fst) := by kernel_rfl
theorem en_ref17_Ruled : Entered Try.prog 64 := .inr ⟨by decide, _, Try.func64, by kernel_rfl, by kernel_rfl⟩
theorem gk_ref17_Ruled : GOk Try.prog g_ref17_Ruled := gok_of _ (fun p hp => by cases hp)
theorem lk_ref17_Ruled : tc_ref17_Ruled.lok g_ref17_Ruled := by repeat (first | exact trivial | refine ⟨?_, ?_⟩)
theorem s_ref17_Ruled (r : Rule) : r_ref17_Ruled r = some (.t .bool (ruledF r), []) := by
  simp only [r_ref17_Ruled]
  repeat' (refine br_intro ?_ ?_ <;> intro _)
  all_goals simp only [ige, ile, ilt, decide_eq_true_eq, decide_eq_false_iff_not, Policy.Rules, Policy.Keeps, Item.Name, Item.Kind, Item.Purpose, Item.Links, Item.Until, Keep.Alg, Keep.Bits, Link.Use, Link.Day, Rule.Allow, Rule.Alg, Rule.Below, Rule.Purpose, Rule.From, Rule.To, Dice.L, Dice.At, LinkX.day, LinkX.fall, LinkX.falls, Row.name, Row.kind, Row.way, Row.sizes, Row.strengths] at *
  all_goals (apply some_b; unfold ruledF; rw [Bool.eq_iff_iff]; simp only [ige, ile, ilt, decide_eq_true_eq, Policy.Rules, Policy.Keeps, Item.Name, Item.Kind, Item.Purpose, Item.Links, Item.Until, Keep.Alg, Keep.Bits, Link.Use, Link.Day, Rule.Allow, Rule.Alg, Rule.Below, Rule.Purpose, Rule.From, Rule.To, Dice.L, Dice.At, LinkX.day, LinkX.fall, LinkX.falls, Row.name, Row.kind, Row.way, Row.sizes, Row.strengths, Bool.false_eq_true, false_iff]; omega)
def sp_ref17_Ruled : Ent := spec (.pr tyRule .nil) (fun x => true) (fun x => (.t .bool (ruledF x.1)))
theorem ms_ref17_Ruled : Meets Try.prog 64 (strip sp_ref17_Ruled) := by
  obtain ⟨c, hc, hi⟩ := Option.map_eq_some_iff.1 ok_ref17_Ruled
  exact meets_spec (R := runF g_ref17_Ruled tc_ref17_Ruled rv_ref17_Ruled false) (meets_of (by decide) Try.func64 hc hi Try.ntmps64 rok_ref17_Ruled gk_ref17_Ruled lk_ref17_Ruled mixed) fun x _ => (e_ref17_Ruled x.1).trans (s_ref17_Ruled x.1)
/-- cipherplan/cipherplanref17.kept -/
def tc_ref17_kept : TC := (.sq (.reg [(.mk (some 1) none (.m (.box (.t 0)))), (.mk (some 2) none (.m (.pu (.mv (.c (.v (.bool false)))))))]) (.sq (.reg [(.mk (some 3) none (.m (.pu (.fa 0 (.t 1))))), (.mk (some 4) none (.m (.ld false 1 (.t 3)))), (.mk (some 5) none (.m (.pu (.bin false .geq (.t 4) (.c (.v (.int .i64 1))))))), (.mk (some 6) none (.m (.pu (.mv (.t 5))))), (.mk (some 7) (some (6, true)) (.m (.pu (.fa 0 (.t 1))))), (.mk (some 8) (some (6, true)) (.m (.ld false 1 (.t 7)))), (.mk (some 9) (some (6, true)) (.m (.pu (.bin false .leq (.t 8) (.c (.v (.int .i64 4))))))), (.mk (some 10) none (.m (.pu (.pick (.t 6) (.t 9) (.c (.v (.bool false))))))), (.mk (some 11) none (.m (.pu (.mv (.t 10))))), (.mk (some 12) (some (11, true)) (.m (.pu (.fa 1 (.t 1))))), (.mk (some 13) (some (11, true)) (.m (.ld false 1 (.t 12)))), (.mk (some 14) (some (11, true)) (.m (.pu (.bin false .geq (.t 13) (.c (.v (.int .i64 0))))))), (.mk (some 15) none (.m (.pu (.pick (.t 11) (.t 14) (.c (.v (.bool false))))))), (.mk (some 16) none (.m (.pu (.mv (.t 15))))), (.mk (some 17) (some (16, true)) (.m (.pu (.fa 1 (.t 1))))), (.mk (some 18) (some (16, true)) (.m (.ld false 1 (.t 17)))), (.mk (some 19) (some (16, true)) (.m (.pu (.bin false .leq (.t 18) (.c (.v (.int .i64 40000))))))), (.mk (some 20) none (.m (.pu (.pick (.t 16) (.t 19) (.c (.v (.bool false))))))), (.mk (some 2) none (.m (.pu (.mv (.t 20)))))]) .rt))
def rv_ref17_kept : List (RV × Option Ty) := [((.t 2), some .bool)]
def g_ref17_kept : G := ⟨TYs, [], 21, EL [], keeps, (fun _ _ => none), IL [], RL []⟩
def r_ref17_kept (p0 : Keep) : Option (V × List VO) :=
  br ((ige p0.1 1))
    (br ((ile p0.1 4))
      (br ((ige p0.2.1 0))
        (some (.t .bool (ile p0.2.1 40000), []))
        (some (.t .bool false, [])))
      (some (.t .bool false, [])))
    (some (.t .bool false, []))
theorem e_ref17_kept (p0 : Keep) : runF g_ref17_kept tc_ref17_kept rv_ref17_kept false [.t tyKeep p0] [] = r_ref17_kept p0 := by kernel_rfl
theorem ok_ref17_kept : Option.map (trC Try.prog) Try.f65.body = some tc_ref17_kept.er := by kernel_rfl
theorem rok_ref17_kept : trVs Try.prog Try.f65.results.toList = some (rv_ref17_kept.map Prod.fst) := by kernel_rfl
theorem en_ref17_kept : Entered Try.prog 65 := .inr ⟨by decide, _, Try.func65, by kernel_rfl, by kernel_rfl⟩
theorem gk_ref17_kept : GOk Try.prog g_ref17_kept := gok_of _ (fun p hp => by cases hp)
theorem lk_ref17_kept : tc_ref17_kept.lok g_ref17_kept := by repeat (first | exact trivial | refine ⟨?_, ?_⟩)
theorem s_ref17_kept (r : Keep) : r_ref17_kept r = some (.t .bool (keptF r), []) := by
  simp only [r_ref17_kept]
  repeat' (refine br_intro ?_ ?_ <;> intro _)
  all_goals simp only [ige, ile, ilt, decide_eq_true_eq, decide_eq_false_iff_not, Policy.Rules, Policy.Keeps, Item.Name, Item.Kind, Item.Purpose, Item.Links, Item.Until, Keep.Alg, Keep.Bits, Link.Use, Link.Day, Rule.Allow, Rule.Alg, Rule.Below, Rule.Purpose, Rule.From, Rule.To, Dice.L, Dice.At, LinkX.day, LinkX.fall, LinkX.falls, Row.name, Row.kind, Row.way, Row.sizes, Row.strengths] at *
  all_goals (apply some_b; unfold keptF; rw [Bool.eq_iff_iff]; simp only [ige, ile, ilt, decide_eq_true_eq, Policy.Rules, Policy.Keeps, Item.Name, Item.Kind, Item.Purpose, Item.Links, Item.Until, Keep.Alg, Keep.Bits, Link.Use, Link.Day, Rule.Allow, Rule.Alg, Rule.Below, Rule.Purpose, Rule.From, Rule.To, Dice.L, Dice.At, LinkX.day, LinkX.fall, LinkX.falls, Row.name, Row.kind, Row.way, Row.sizes, Row.strengths, Bool.false_eq_true, false_iff]; omega)
def sp_ref17_kept : Ent := spec (.pr tyKeep .nil) (fun x => true) (fun x => (.t .bool (keptF x.1)))
theorem ms_ref17_kept : Meets Try.prog 65 (strip sp_ref17_kept) := by
  obtain ⟨c, hc, hi⟩ := Option.map_eq_some_iff.1 ok_ref17_kept
  exact meets_spec (R := runF g_ref17_kept tc_ref17_kept rv_ref17_kept false) (meets_of (by decide) Try.func65 hc hi Try.ntmps65 rok_ref17_kept gk_ref17_kept lk_ref17_kept mixed) fun x _ => (e_ref17_kept x.1).trans (s_ref17_kept x.1)
/-- cipherplan/rule.Check-1 -/
def tc_rule_Check_1 : TC := (.sq (.reg [(.mk (some 1) none (.m (.box (.t 0)))), (.mk (some 2) none (.m (.pu (.mv (.c (.v (.bool false)))))))]) (.sq (.reg [(.mk (some 3) none (.m (.ld true 6 (.t 1)))), (.mk (some 4) none (.call 45 [(.t 3)])), (.mk (some 5) none (.m (.pu (.nt (.t 4))))), (.mk (some 2) none (.m (.pu (.mv (.t 5)))))]) .rt))
def rv_rule_Check_1 : List (RV × Option Ty) := [((.t 2), some .bool)]
def g_rule_Check_1 : G := ⟨TYs, [], 6, EL [(45, sp_rule_ruled)], keeps, (fun _ _ => none), IL [], RL []⟩
def r_rule_Check_1 (p0 : Rule) : Option (V × List VO) :=
  some (.t .bool (!(ruledF p0)), [])
theorem e_rule_Check_1 (p0 : Rule) : runF g_rule_Check_1 tc_rule_Check_1 rv_rule_Check_1 false [.t tyRule p0] [] = r_rule_Check_1 p0 := by kernel_rfl
theorem ok_rule_Check_1 : Option.map (trC Try.prog) Try.f44.body = some tc_rule_Check_1.er := by kernel_rfl
theorem rok_rule_Check_1 : trVs Try.prog Try.f44.results.toList = some (rv_rule_Check_1.map Prod.fst) := by kernel_rfl
theorem en_rule_Check_1 : Entered Try.prog 44 := .inr ⟨by decide, _, Try.func44, by kernel_rfl, by kernel_rfl⟩
theorem gk_rule_Check_1 : GOk Try.prog g_rule_Check_1 := gok_of _ (by
  intro p hp
  simp only [List.mem_cons, List.not_mem_nil, or_false] at hp
  rcases hp with rfl
  · exact ⟨en_rule_ruled, ms_rule_ruled⟩)
theorem lk_rule_Check_1 : tc_rule_Check_1.lok g_rule_Check_1 := by repeat (first | exact trivial | refine ⟨?_, ?_⟩)
theorem s_rule_Check_1 (r : Rule) : r_rule_Check_1 r = some (.t .bool (ruledN r), []) := rfl
def sp_rule_Check_1 : Ent := spec (.pr tyRule .nil) (fun x => true) (fun x => (.t .bool (ruledN x.1)))
theorem ms_rule_Check_1 : Meets Try.prog 44 (strip sp_rule_Check_1) := by
  obtain ⟨c, hc, hi⟩ := Option.map_eq_some_iff.1 ok_rule_Check_1
  exact meets_spec (R := runF g_rule_Check_1 tc_rule_Check_1 rv_rule_Check_1 false) (meets_of (by decide) Try.func44 hc hi Try.ntmps44 rok_rule_Check_1 gk_rule_Check_1 lk_rule_Check_1 mixed) fun x _ => (e_rule_Check_1 x.1).trans (s_rule_Check_1 x.1)
/-- cipherplan/rule.Check-2 -/
def tc_rule_Check_2 : TC := (.sq (.reg [(.mk (some 1) none (.m (.box (.t 0)))), (.mk (some 2) none (.m (.pu (.mv (.c (.v (.bool false)))))))]) (.sq (.reg [(.mk (some 3) none (.m (.ld true 2 (.t 1)))), (.mk (some 4) none (.call 48 [(.t 3)])), (.mk (some 5) none (.m (.pu (.nt (.t 4))))), (.mk (some 2) none (.m (.pu (.mv (.t 5)))))]) .rt))
def rv_rule_Check_2 : List (RV × Option Ty) := [((.t 2), some .bool)]
def g_rule_Check_2 : G := ⟨TYs, [], 6, EL [(48, sp_rule_kept)], keeps, (fun _ _ => none), IL [], RL []⟩
def r_rule_Check_2 (p0 : Keep) : Option (V × List VO) :=
  some (.t .bool (!(keptF p0)), [])
theorem e_rule_Check_2 (p0 : Keep) : runF g_rule_Check_2 tc_rule_Check_2 rv_rule_Check_2 false [.t tyKeep p0] [] = r_rule_Check_2 p0 := by kernel_rfl
theorem ok_rule_Check_2 : Option.map (trC Try.prog) Try.f47.body = some tc_rule_Check_2.er := by kernel_rfl
theorem rok_rule_Check_2 : trVs Try.prog Try.f47.results.toList = some (rv_rule_Check_2.map Prod.fst) := by kernel_rfl
theorem en_rule_Check_2 : Entered Try.prog 47 := .inr ⟨by decide, _, Try.func47, by kernel_rfl, by kernel_rfl⟩
theorem gk_rule_Check_2 : GOk Try.prog g_rule_Check_2 := gok_of _ (by
  intro p hp
  simp only [List.mem_cons, List.not_mem_nil, or_false] at hp
  rcases hp with rfl
  · exact ⟨en_rule_kept, ms_rule_kept⟩)
theorem lk_rule_Check_2 : tc_rule_Check_2.lok g_rule_Check_2 := by repeat (first | exact trivial | refine ⟨?_, ?_⟩)
theorem s_rule_Check_2 (r : Keep) : r_rule_Check_2 r = some (.t .bool (keptN r), []) := rfl
def sp_rule_Check_2 : Ent := spec (.pr tyKeep .nil) (fun x => true) (fun x => (.t .bool (keptN x.1)))
theorem ms_rule_Check_2 : Meets Try.prog 47 (strip sp_rule_Check_2) := by
  obtain ⟨c, hc, hi⟩ := Option.map_eq_some_iff.1 ok_rule_Check_2
  exact meets_spec (R := runF g_rule_Check_2 tc_rule_Check_2 rv_rule_Check_2 false) (meets_of (by decide) Try.func47 hc hi Try.ntmps47 rok_rule_Check_2 gk_rule_Check_2 lk_rule_Check_2 mixed) fun x _ => (e_rule_Check_2 x.1).trans (s_rule_Check_2 x.1)

/-! the first that is so -/
def fstN {α : Type} (m : α → Bool) : List α → Option Nat
  | [] => none
  | a :: l => if m a then some 0 else (fstN m l).map (· + 1)
theorem fstN_none {α : Type} {m : α → Bool} : ∀ {l : List α}, fstN m l = none ↔ l.any m = false
  | [] => by simp [fstN]
  | a :: l => by
    have ih := fstN_none (m := m) (l := l)
    unfold fstN
    cases h : m a with
    | true => simp [h]
    | false => simpa [h] using ih
theorem fstN_some {α : Type} {m : α → Bool} {l : List α} {k : Nat} (h : fstN m l = some k) : l.any m = true := by
  cases hq : l.any m with
  | true => rfl
  | false => rw [fstN_none.2 hq] at h; cases h
def lenOk5 {α : Type} (l : List α) : Bool := decide (l.length ≤ 100000)
def fstRule (l : List Rule) : Int := match fstN ruledN l with | some k => (k : Int) | none => -1
def fstKeep (l : List Keep) : Int := match fstN keptN l with | some k => (k : Int) | none => -1

def fg_slices_IndexFunc_api_Rule_api_Rule_rule_Check_1_0 : Fg := ⟨[(0, some (.sl tyRule)), (1, none), (7, some tI), (8, some tI)], []⟩
def tb_slices_IndexFunc_api_Rule_api_Rule_rule_Check_1_0 : TC := (.sq (.reg [(.mk (some 9) none (.m (.pu (.bin false .lss (.t 8) (.t 7)))))]) (.sq (.cd (.t 9) .sk (.fg ⟨[], []⟩ (.ex 0))) (.sq (.bk 1 (.sq (.reg [(.mk (some 10) none (.m (.pu (.mv (.t 8))))), (.mk (some 5) none (.m (.pu (.mv (.t 10)))))]) (.sq (.reg [(.mk (some 11) none (.m (.pu (.mv (.t 1))))), (.mk (some 12) none (.m (.pu (.mv (.t 0))))), (.mk (some 13) none (.m (.pu (.mv (.t 5))))), (.mk (some 14) none (.m (.pu (.ix 6 (.t 12) (.t 13))))), (.mk (some 15) none (.m (.ld true 6 (.t 14)))), (.mk (some 16) none (.cv (.t 11) [(.t 15)]))]) (.cd (.t 16) (.sq (.reg [(.mk (some 17) none (.m (.pu (.mv (.t 5))))), (.mk (some 4) none (.m (.pu (.mv (.t 17)))))]) (.fg ⟨[(4, some tI)], []⟩ .rt)) .sk)))) (.reg [(.mk (some 18) none (.m (.pu (.bin false .add (.t 8) (.c (.v (.int .i64 1))))))), (.mk (some 8) none (.m (.pu (.mv (.t 18)))))]))))
/-- slices.IndexFunc[[]cipherplan/api.Rule,cipherplan/api.Rule] -/
def tc_slices_IndexFunc_api_Rule_api_Rule_rule_Check_1 : TC := (.sq (.reg [(.mk (some 4) none (.m (.pu (.mv (.c (.v (.int .i64 0)))))))]) (.sq (.sq (.reg [(.mk (some 6) none (.m (.pu (.mv (.t 0))))), (.mk (some 7) none (.m (.pu (.len false (.t 6))))), (.mk (some 8) none (.m (.pu (.mv (.c (.v (.int .i64 0)))))))]) (.bk 0 (.lp 0 fg_slices_IndexFunc_api_Rule_api_Rule_rule_Check_1_0 tb_slices_IndexFunc_api_Rule_api_Rule_rule_Check_1_0))) (.sq (.reg [(.mk (some 4) none (.m (.pu (.mv (.c (.v (.int .i64 (-1))))))))]) .rt)))
def rv_slices_IndexFunc_api_Rule_api_Rule_rule_Check_1 : List (RV × Option Ty) := [((.t 4), some tI)]
abbrev sh_slices_IndexFunc_api_Rule_api_Rule_rule_Check_1_0 : Sh := ⟨[(0, .ty (.sl tyRule)), (1, .cf 44), (7, .ty tI), (8, .ty tI)], []⟩
def st_slices_IndexFunc_api_Rule_api_Rule_rule_Check_1_0 (x0 : (List Rule)) (x7 : Int) (x8 : Int) : VS := sh_slices_IndexFunc_api_Rule_api_Rule_rule_Check_1_0.st (x0, (), x7, x8, ()) ()
abbrev sh_slices_IndexFunc_api_Rule_api_Rule_rule_Check_1_0_ret : Sh := ⟨[(4, .ty tI)], []⟩
def st_slices_IndexFunc_api_Rule_api_Rule_rule_Check_1_0_ret (x4 : Int) : VS := sh_slices_IndexFunc_api_Rule_api_Rule_rule_Check_1_0_ret.st (x4, ()) ()
abbrev sh_slices_IndexFunc_api_Rule_api_Rule_rule_Check_1_0_e0 : Sh := ⟨[], []⟩
def st_slices_IndexFunc_api_Rule_api_Rule_rule_Check_1_0_e0  : VS := sh_slices_IndexFunc_api_Rule_api_Rule_rule_Check_1_0_e0.st () ()
-- loop 0: (x0 : (List Rule)) (x7 : Int) (x8 : Int); out: ('ret',) (x4 : Int); ('exit', 0) 
def L_slices_IndexFunc_api_Rule_api_Rule_rule_Check_1_0 : VS → Option (Bool × List (Bool × Exit × VS)) := mkL sh_slices_IndexFunc_api_Rule_api_Rule_rule_Check_1_0 (fun x y => (rngOk x.1 x.2.2.1 x.2.2.2.1)) (fun x y => [(((fstN ruledN (x.1.drop x.2.2.2.1.toNat)).isSome), .ret, st_slices_IndexFunc_api_Rule_api_Rule_rule_Check_1_0_ret (x.2.2.2.1 + ((fstN ruledN (x.1.drop x.2.2.2.1.toNat)).getD 0 : Nat))), (true, .exit 0, st_slices_IndexFunc_api_Rule_api_Rule_rule_Check_1_0_e0)])
def g_slices_IndexFunc_api_Rule_api_Rule_rule_Check_1 : G := ⟨TYs, [], 19, EL [(44, sp_rule_Check_1)], keeps, (Ls [L_slices_IndexFunc_api_Rule_api_Rule_rule_Check_1_0]), IL [], RL []⟩
def b_slices_IndexFunc_api_Rule_api_Rule_rule_Check_1_0 (x0 : (List Rule)) (x7 : Int) (x8 : Int) : Option (Exit × VS) :=
  br ((ilt x8 x7))
    (br (cIx x0 x8)
      (br ((ruledN (lgt tyRule x0 (Int.toNat x8))))
        (some (.ret, st_slices_IndexFunc_api_Rule_api_Rule_rule_Check_1_0_ret x8))
        (some (.normal, st_slices_IndexFunc_api_Rule_api_Rule_rule_Check_1_0 x0 x7 (iadd .i64 x8 1))))
      (none))
    (some (.exit 0, st_slices_IndexFunc_api_Rule_api_Rule_rule_Check_1_0_e0))
noncomputable def lp_slices_IndexFunc_api_Rule_api_Rule_rule_Check_1_0 (x0 : (List Rule)) (x7 : Int) (x8 : Int) : Option (Exit × VS) := loopF (roundF g_slices_IndexFunc_api_Rule_api_Rule_rule_Check_1 fg_slices_IndexFunc_api_Rule_api_Rule_rule_Check_1_0 tb_slices_IndexFunc_api_Rule_api_Rule_rule_Check_1_0) (st_slices_IndexFunc_api_Rule_api_Rule_rule_Check_1_0 x0 x7 x8)
noncomputable def n_slices_IndexFunc_api_Rule_api_Rule_rule_Check_1_0 (x0 : (List Rule)) (x7 : Int) (x8 : Int) : Option (Exit × VS) :=
  br ((ilt x8 x7))
    (br (cIx x0 x8)
      (br ((ruledN (lgt tyRule x0 (Int.toNat x8))))
        (some (.ret, st_slices_IndexFunc_api_Rule_api_Rule_rule_Check_1_0_ret x8))
        (lp_slices_IndexFunc_api_Rule_api_Rule_rule_Check_1_0 x0 x7 (iadd .i64 x8 1)))
      (none))
    (some (.exit 0, st_slices_IndexFunc_api_Rule_api_Rule_rule_Check_1_0_e0))
def la_slices_IndexFunc_api_Rule_api_Rule_rule_Check_1_0 (x0 : (List Rule)) (x7 : Int) (x8 : Int) : Option (Exit × VS) := br ((fstN ruledN (x0.drop x8.toNat)).isSome) (some (.ret, st_slices_IndexFunc_api_Rule_api_Rule_rule_Check_1_0_ret (x8 + ((fstN ruledN (x0.drop x8.toNat)).getD 0 : Nat)))) <| some (.exit 0, st_slices_IndexFunc_api_Rule_api_Rule_rule_Check_1_0_e0)
theorem be_slices_IndexFunc_api_Rule_api_Rule_rule_Check_1_0 (x0 : (List Rule)) (x7 : Int) (x8 : Int) : roundF g_slices_IndexFunc_api_Rule_api_Rule_rule_Check_1 fg_slices_IndexFunc_api_Rule_api_Rule_rule_Check_1_0 tb_slices_IndexFunc_api_Rule_api_Rule_rule_Check_1_0 (st_slices_IndexFunc_api_Rule_api_Rule_rule_Check_1_0 x0 x7 x8) = b_slices_IndexFunc_api_Rule_api_Rule_rule_Check_1_0 x0 x7 x8 := by kernel_rfl
theorem ln_slices_IndexFunc_api_Rule_api_Rule_rule_Check_1_0 (x0 : (List Rule)) (x7 : Int) (x8 : Int) : lp_slices_IndexFunc_api_Rule_api_Rule_rule_Check_1_0 x0 x7 x8 = n_slices_IndexFunc_api_Rule_api_Rule_rule_Check_1_0 x0 x7 x8 := (loopF_nxt _ _).trans (by
  rw [be_slices_IndexFunc_api_Rule_api_Rule_rule_Check_1_0]
  simp only [b_slices_IndexFunc_api_Rule_api_Rule_rule_Check_1_0, n_slices_IndexFunc_api_Rule_api_Rule_rule_Check_1_0, nxt_br, nxt_n, nxt_r, nxt_e, nxt_0]
  rfl)
def r_slices_IndexFunc_api_Rule_api_Rule_rule_Check_1 (p0 : (List Rule)) : Option (V × List VO) :=
  br ((rngOk p0 (llen p0) (0 : Int)))
    (br (((fstN ruledN (p0.drop (0 : Int).toNat)).isSome))
      (some (.t tI ((0 : Int) + ((fstN ruledN (p0.drop (0 : Int).toNat)).getD 0 : Nat)), []))
      (some (.t tI (-1), [])))
    (none)
theorem e_slices_IndexFunc_api_Rule_api_Rule_rule_Check_1 (p0 : (List Rule)) : runF g_slices_IndexFunc_api_Rule_api_Rule_rule_Check_1 tc_slices_IndexFunc_api_Rule_api_Rule_rule_Check_1 rv_slices_IndexFunc_api_Rule_api_Rule_rule_Check_1 false [.t (.sl tyRule) p0, .c (.func (.func 44) ⟨[]⟩ ⟨[]⟩)] [] = r_slices_IndexFunc_api_Rule_api_Rule_rule_Check_1 p0 := by kernel_rfl
theorem ok_slices_IndexFunc_api_Rule_api_Rule_rule_Check_1 : Option.map (trC Try.prog) Try.f60.body = some tc_slices_IndexFunc_api_Rule_api_Rule_rule_Check_1.er := by kernel_rfl
theorem rok_slices_IndexFunc_api_Rule_api_Rule_rule_Check_1 : trVs Try.prog Try.f60.results.toList = some (rv_slices_IndexFunc_api_Rule_api_Rule_rule_Check_1.map Prod.fst) := by kernel_rfl
theorem en_slices_IndexFunc_api_Rule_api_Rule_rule_Check_1 : Entered Try.prog 60 := .inr ⟨by decide, _, Try.func60, by kernel_rfl, by kernel_rfl⟩
theorem gk_slices_IndexFunc_api_Rule_api_Rule_rule_Check_1 : GOk Try.prog g_slices_IndexFunc_api_Rule_api_Rule_rule_Check_1 := gok_of _ (by
  intro p hp
  simp only [List.mem_cons, List.not_mem_nil, or_false] at hp
  rcases hp with rfl
  · exact ⟨en_rule_Check_1, ms_rule_Check_1⟩)
theorem l_slices_IndexFunc_api_Rule_api_Rule_rule_Check_1_0 (x0 : (List Rule)) (x7 : Int) (x8 : Int) (h : (rngOk x0 x7 x8) = true) : lp_slices_IndexFunc_api_Rule_api_Rule_rule_Check_1_0 x0 x7 x8 = la_slices_IndexFunc_api_Rule_api_Rule_rule_Check_1_0 x0 x7 x8 := by
  obtain ⟨rfl, h3, k, rfl, hk⟩ := rng_k h
  clear h
  refine range_ind x0 (fun k => lp_slices_IndexFunc_api_Rule_api_Rule_rule_Check_1_0 x0 (x0.length : Int) (k : Int) = la_slices_IndexFunc_api_Rule_api_Rule_rule_Check_1_0 x0 (x0.length : Int) (k : Int)) ?_ ?_ k hk
  · rw [ln_slices_IndexFunc_api_Rule_api_Rule_rule_Check_1_0]
    simp [n_slices_IndexFunc_api_Rule_api_Rule_rule_Check_1_0, la_slices_IndexFunc_api_Rule_api_Rule_rule_Check_1_0, ilt_nat, br_false, fstN]
  · intro k hk ih
    rw [ln_slices_IndexFunc_api_Rule_api_Rule_rule_Check_1_0]
    simp only [n_slices_IndexFunc_api_Rule_api_Rule_rule_Check_1_0, ilt_nat, cIx_nat, hk, decide_true, br_true, Int.toNat_natCast, add1 (show k < 4611686018427387904 by omega), ih, lgt_get (y := tyRule) hk]
    simp only [la_slices_IndexFunc_api_Rule_api_Rule_rule_Check_1_0, Int.toNat_natCast, List.drop_eq_getElem_cons hk, fstN]
    cases h : ruledN x0[k] with
    | true => simp [br_true]
    | false =>
      simp only [br_false, Bool.false_eq_true, if_false]
      cases hq : fstN ruledN (x0.drop (k + 1)) with
      | none => rfl
      | some j =>
        simp only [Option.map_some, Option.isSome_some, Option.getD_some, br_true]
        congr 3
        omega
theorem lo_slices_IndexFunc_api_Rule_api_Rule_rule_Check_1_0 : ∀ S l p, g_slices_IndexFunc_api_Rule_api_Rule_rule_Check_1.L 0 (fgt fg_slices_IndexFunc_api_Rule_api_Rule_rule_Check_1_0 S) = some (true, l) → pickA l = some p → loopF (roundF g_slices_IndexFunc_api_Rule_api_Rule_rule_Check_1 fg_slices_IndexFunc_api_Rule_api_Rule_rule_Check_1_0 tb_slices_IndexFunc_api_Rule_api_Rule_rule_Check_1_0) S = some p :=
  lok_of (s := sh_slices_IndexFunc_api_Rule_api_Rule_rule_Check_1_0) ⟨by decide, by decide⟩ (by kernel_rfl) fun x y hok p hp => by
  simp only [pickA_br, pickA_one] at hp
  exact (l_slices_IndexFunc_api_Rule_api_Rule_rule_Check_1_0 x.1 x.2.2.1 x.2.2.2.1 (by simpa using hok)).trans hp
theorem lk_slices_IndexFunc_api_Rule_api_Rule_rule_Check_1 : tc_slices_IndexFunc_api_Rule_api_Rule_rule_Check_1.lok g_slices_IndexFunc_api_Rule_api_Rule_rule_Check_1 := by
  repeat (first | exact trivial | exact lo_slices_IndexFunc_api_Rule_api_Rule_rule_Check_1_0 | refine ⟨?_, ?_⟩)
theorem s_slices_IndexFunc_api_Rule_api_Rule_rule_Check_1 (l : List Rule) (h : lenOk5 l = true) : r_slices_IndexFunc_api_Rule_api_Rule_rule_Check_1 l = some (.t tI (fstRule l), []) := by
  simp only [lenOk5, decide_eq_true_eq] at h
  simp only [r_slices_IndexFunc_api_Rule_api_Rule_rule_Check_1, rng_0 h, br_true, Int.toNat_zero, List.drop_zero, fstRule]
  cases fstN ruledN l <;> simp [br_true, br_false]
def sp_slices_IndexFunc_api_Rule_api_Rule_rule_Check_1 : Ent := specH [.ty (.sl tyRule), .cf 44] [] (fun x d => (lenOk5 x.1)) (fun x d => (.t tI (fstRule x.1)))
theorem ms_slices_IndexFunc_api_Rule_api_Rule_rule_Check_1 : Meets Try.prog 60 (strip sp_slices_IndexFunc_api_Rule_api_Rule_rule_Check_1) := by
  obtain ⟨c, hc, hi⟩ := Option.map_eq_some_iff.1 ok_slices_IndexFunc_api_Rule_api_Rule_rule_Check_1
  exact meets_specH (R := runF g_slices_IndexFunc_api_Rule_api_Rule_rule_Check_1 tc_slices_IndexFunc_api_Rule_api_Rule_rule_Check_1 rv_slices_IndexFunc_api_Rule_api_Rule_rule_Check_1 false) (meets_of (by decide) Try.func60 hc hi Try.ntmps60 rok_slices_IndexFunc_api_Rule_api_Rule_rule_Check_1 gk_slices_IndexFunc_api_Rule_api_Rule_rule_Check_1 lk_slices_IndexFunc_api_Rule_api_Rule_rule_Check_1 mixed) fun x d hok => (e_slices_IndexFunc_api_Rule_api_Rule_rule_Check_1 x.1).trans (s_slices_IndexFunc_api_Rule_api_Rule_rule_Check_1 x.1 hok)
def anyRule (l : List Rule) : Bool := l.any ruledN
/-- slices.ContainsFunc[[]cipherplan/api.Rule,cipherplan/api.Rule] -/
def tc_slices_ContainsFunc_api_Rule_api_Rule_rule_Check_1 : TC := (.sq (.reg [(.mk (some 4) none (.m (.pu (.mv (.c (.v (.bool false)))))))]) (.sq (.reg [(.mk (some 5) none (.m (.pu (.mv (.t 0))))), (.mk (some 6) none (.m (.pu (.mv (.t 1))))), (.mk (some 7) none (.call 60 [(.t 5), (.t 6)])), (.mk (some 8) none (.m (.pu (.bin false .geq (.t 7) (.c (.v (.int .i64 0))))))), (.mk (some 4) none (.m (.pu (.mv (.t 8)))))]) .rt))
def rv_slices_ContainsFunc_api_Rule_api_Rule_rule_Check_1 : List (RV × Option Ty) := [((.t 4), some .bool)]
def g_slices_ContainsFunc_api_Rule_api_Rule_rule_Check_1 : G := ⟨TYs, [], 9, EL [(60, sp_slices_IndexFunc_api_Rule_api_Rule_rule_Check_1)], keeps, (fun _ _ => none), IL [], RL []⟩
def r_slices_ContainsFunc_api_Rule_api_Rule_rule_Check_1 (p0 : (List Rule)) : Option (V × List VO) :=
  br ((lenOk5 p0))
    (some (.t .bool (ige (fstRule p0) 0), []))
    (none)
theorem e_slices_ContainsFunc_api_Rule_api_Rule_rule_Check_1 (p0 : (List Rule)) : runF g_slices_ContainsFunc_api_Rule_api_Rule_rule_Check_1 tc_slices_ContainsFunc_api_Rule_api_Rule_rule_Check_1 rv_slices_ContainsFunc_api_Rule_api_Rule_rule_Check_1 false [.t (.sl tyRule) p0, .c (.func (.func 44) ⟨[]⟩ ⟨[]⟩)] [] = r_slices_ContainsFunc_api_Rule_api_Rule_rule_Check_1 p0 := by kernel_rfl
theorem ok_slices_ContainsFunc_api_Rule_api_Rule_rule_Check_1 : Option.map (trC Try.prog) Try.f43.body = some tc_slices_ContainsFunc_api_Rule_api_Rule_rule_Check_1.er := by kernel_rfl
theorem rok_slices_ContainsFunc_api_Rule_api_Rule_rule_Check_1 : trVs Try.prog Try.f43.results.toList = some (rv_slices_ContainsFunc_api_Rule_api_Rule_rule_Check_1.map Prod.fst) := by kernel_rfl
theorem en_slices_ContainsFunc_api_Rule_api_Rule_rule_Check_1 : Entered Try.prog 43 := .inr ⟨by decide, _, Try.func43, by kernel_rfl, by kernel_rfl⟩
theorem gk_slices_ContainsFunc_api_Rule_api_Rule_rule_Check_1 : GOk Try.prog g_slices_ContainsFunc_api_Rule_api_Rule_rule_Check_1 := gok_of _ (by
  intro p hp
  simp only [List.mem_cons, List.not_mem_nil, or_false] at hp
  rcases hp with rfl
  · exact ⟨en_slices_IndexFunc_api_Rule_api_Rule_rule_Check_1, ms_slices_IndexFunc_api_Rule_api_Rule_rule_Check_1⟩)
theorem lk_slices_ContainsFunc_api_Rule_api_Rule_rule_Check_1 : tc_slices_ContainsFunc_api_Rule_api_Rule_rule_Check_1.lok g_slices_ContainsFunc_api_Rule_api_Rule_rule_Check_1 := by repeat (first | exact trivial | refine ⟨?_, ?_⟩)
theorem s_slices_ContainsFunc_api_Rule_api_Rule_rule_Check_1 (l : List Rule) (h : lenOk5 l = true) : r_slices_ContainsFunc_api_Rule_api_Rule_rule_Check_1 l = some (.t .bool (anyRule l), []) := by
  simp only [r_slices_ContainsFunc_api_Rule_api_Rule_rule_Check_1, h, br_true]
  congr 3
  unfold fstRule anyRule
  cases hq : fstN ruledN l with
  | none => rw [fstN_none.1 hq]; rfl
  | some k => rw [fstN_some hq]; simp only [ige, decide_eq_true_eq]; omega
def sp_slices_ContainsFunc_api_Rule_api_Rule_rule_Check_1 : Ent := specH [.ty (.sl tyRule), .cf 44] [] (fun x d => (lenOk5 x.1)) (fun x d => (.t .bool (anyRule x.1)))
theorem ms_slices_ContainsFunc_api_Rule_api_Rule_rule_Check_1 : Meets Try.prog 43 (strip sp_slices_ContainsFunc_api_Rule_api_Rule_rule_Check_1) := by
  obtain ⟨c, hc, hi⟩ := Option.map_eq_some_iff.1 ok_slices_ContainsFunc_api_Rule_api_Rule_rule_Check_1
  exact meets_specH (R := runF g_slices_ContainsFunc_api_Rule_api_Rule_rule_Check_1 tc_slices_ContainsFunc_api_Rule_api_Rule_rule_Check_1 rv_slices_ContainsFunc_api_Rule_api_Rule_rule_Check_1 false) (meets_of (by decide) Try.func43 hc hi Try.ntmps43 rok_slices_ContainsFunc_api_Rule_api_Rule_rule_Check_1 gk_slices_ContainsFunc_api_Rule_api_Rule_rule_Check_1 lk_slices_ContainsFunc_api_Rule_api_Rule_rule_Check_1 mixed) fun x d hok => (e_slices_ContainsFunc_api_Rule_api_Rule_rule_Check_1 x.1).trans (s_slices_ContainsFunc_api_Rule_api_Rule_rule_Check_1 x.1 hok)

def fg_slices_IndexFunc_api_Keep_api_Keep_rule_Check_2_0 : Fg := ⟨[(0, some (.sl tyKeep)), (1, none), (7, some tI), (8, some tI)], []⟩
def tb_slices_IndexFunc_api_Keep_api_Keep_rule_Check_2_0 : TC := (.sq (.reg [(.mk (some 9) none (.m (.pu (.bin false .lss (.t 8) (.t 7)))))]) (.sq (.cd (.t 9) .sk (.fg ⟨[], []⟩ (.ex 0))) (.sq (.bk 1 (.sq (.reg [(.mk (some 10) none (.m (.pu (.mv (.t 8))))), (.mk (some 5) none (.m (.pu (.mv (.t 10)))))]) (.sq (.reg [(.mk (some 11) none (.m (.pu (.mv (.t 1))))), (.mk (some 12) none (.m (.pu (.mv (.t 0))))), (.mk (some 13) none (.m (.pu (.mv (.t 5))))), (.mk (some 14) none (.m (.pu (.ix 2 (.t 12) (.t 13))))), (.mk (some 15) none (.m (.ld true 2 (.t 14)))), (.mk (some 16) none (.cv (.t 11) [(.t 15)]))]) (.cd (.t 16) (.sq (.reg [(.mk (some 17) none (.m (.pu (.mv (.t 5))))), (.mk (some 4) none (.m (.pu (.mv (.t 17)))))]) (.fg ⟨[(4, some tI)], []⟩ .rt)) .sk)))) (.reg [(.mk (some 18) none (.m (.pu (.bin false .add (.t 8) (.c (.v (.int .i64 1))))))), (.mk (some 8) none (.m (.pu (.mv (.t 18)))))]))))
/-- slices.IndexFunc[[]cipherplan/api.Keep,cipherplan/api.Keep] -/
def tc_slices_IndexFunc_api_Keep_api_Keep_rule_Check_2 : TC := (.sq (.reg [(.mk (some 4) none (.m (.pu (.mv (.c (.v (.int .i64 0)))))))]) (.sq (.sq (.reg [(.mk (some 6) none (.m (.pu (.mv (.t 0))))), (.mk (some 7) none (.m (.pu (.len false (.t 6))))), (.mk (some 8) none (.m (.pu (.mv (.c (.v (.int .i64 0)))))))]) (.bk 0 (.lp 0 fg_slices_IndexFunc_api_Keep_api_Keep_rule_Check_2_0 tb_slices_IndexFunc_api_Keep_api_Keep_rule_Check_2_0))) (.sq (.reg [(.mk (some 4) none (.m (.pu (.mv (.c (.v (.int .i64 (-1))))))))]) .rt)))
def rv_slices_IndexFunc_api_Keep_api_Keep_rule_Check_2 : List (RV × Option Ty) := [((.t 4), some tI)]
abbrev sh_slices_IndexFunc_api_Keep_api_Keep_rule_Check_2_0 : Sh := ⟨[(0, .ty (.sl tyKeep)), (1, .cf 47), (7, .ty tI), (8, .ty tI)], []⟩
def st_slices_IndexFunc_api_Keep_api_Keep_rule_Check_2_0 (x0 : (List Keep)) (x7 : Int) (x8 : Int) : VS := sh_slices_IndexFunc_api_Keep_api_Keep_rule_Check_2_0.st (x0, (), x7, x8, ()) ()
abbrev sh_slices_IndexFunc_api_Keep_api_Keep_rule_Check_2_0_ret : Sh := ⟨[(4, .ty tI)], []⟩
def st_slices_IndexFunc_api_Keep_api_Keep_rule_Check_2_0_ret (x4 : Int) : VS := sh_slices_IndexFunc_api_Keep_api_Keep_rule_Check_2_0_ret.st (x4, ()) ()
abbrev sh_slices_IndexFunc_api_Keep_api_Keep_rule_Check_2_0_e0 : Sh := ⟨[], []⟩
def st_slices_IndexFunc_api_Keep_api_Keep_rule_Check_2_0_e0  : VS := sh_slices_IndexFunc_api_Keep_api_Keep_rule_Check_2_0_e0.st () ()
-- loop 0: (x0 : (List Keep)) (x7 : Int) (x8 : Int); out: ('ret',) (x4 : Int); ('exit', 0) 
def L_slices_IndexFunc_api_Keep_api_Keep_rule_Check_2_0 : VS → Option (Bool × List (Bool × Exit × VS)) := mkL sh_slices_IndexFunc_api_Keep_api_Keep_rule_Check_2_0 (fun x y => (rngOk x.1 x.2.2.1 x.2.2.2.1)) (fun x y => [(((fstN keptN (x.1.drop x.2.2.2.1.toNat)).isSome), .ret, st_slices_IndexFunc_api_Keep_api_Keep_rule_Check_2_0_ret (x.2.2.2.1 + ((fstN keptN (x.1.drop x.2.2.2.1.toNat)).getD 0 : Nat))), (true, .exit 0, st_slices_IndexFunc_api_Keep_api_Keep_rule_Check_2_0_e0)])
def g_slices_IndexFunc_api_Keep_api_Keep_rule_Check_2 : G := ⟨TYs, [], 19, EL [(47, sp_rule_Check_2)], keeps, (Ls [L_slices_IndexFunc_api_Keep_api_Keep_rule_Check_2_0]), IL [], RL []⟩
def b_slices_IndexFunc_api_Keep_api_Keep_rule_Check_2_0 (x0 : (List Keep)) (x7 : Int) (x8 : Int) : Option (Exit × VS) :=
  br ((ilt x8 x7))
    (br (cIx x0 x8)
      (br ((keptN (lgt tyKeep x0 (Int.toNat x8))))
        (some (.ret, st_slices_IndexFunc_api_Keep_api_Keep_rule_Check_2_0_ret x8))
        (some (.normal, st_slices_IndexFunc_api_Keep_api_Keep_rule_Check_2_0 x0 x7 (iadd .i64 x8 1))))
      (none))
    (some (.exit 0, st_slices_IndexFunc_api_Keep_api_Keep_rule_Check_2_0_e0))
noncomputable def lp_slices_IndexFunc_api_Keep_api_Keep_rule_Check_2_0 (x0 : (List Keep)) (x7 : Int) (x8 : Int) : Option (Exit × VS) := loopF (roundF g_slices_IndexFunc_api_Keep_api_Keep_rule_Check_2 fg_slices_IndexFunc_api_Keep_api_Keep_rule_Check_2_0 tb_slices_IndexFunc_api_Keep_api_Keep_rule_Check_2_0) (st_slices_IndexFunc_api_Keep_api_Keep_rule_Check_2_0 x0 x7 x8)
noncomputable def n_slices_IndexFunc_api_Keep_api_Keep_rule_Check_2_0 (x0 : (List Keep)) (x7 : Int) (x8 : Int) : Option (Exit × VS) :=
  br ((ilt x8 x7))
    (br (cIx x0 x8)
      (br ((keptN (lgt tyKeep x0 (Int.toNat x8))))
        (some (.ret, st_slices_IndexFunc_api_Keep_api_Keep_rule_Check_2_0_ret x8))
        (lp_slices_IndexFunc_api_Keep_api_Keep_rule_Check_2_0 x0 x7 (iadd .i64 x8 1)))
      (none))
    (some (.exit 0, st_slices_IndexFunc_api_Keep_api_Keep_rule_Check_2_0_e0))
def la_slices_IndexFunc_api_Keep_api_Keep_rule_Check_2_0 (x0 : (List Keep)) (x7 : Int) (x8 : Int) : Option (Exit × VS) := br ((fstN keptN (x0.drop x8.toNat)).isSome) (some (.ret, st_slices_IndexFunc_api_Keep_api_Keep_rule_Check_2_0_ret (x8 + ((fstN keptN (x0.drop x8.toNat)).getD 0 : Nat)))) <| some (.exit 0, st_slices_IndexFunc_api_Keep_api_Keep_rule_Check_2_0_e0)
theorem be_slices_IndexFunc_api_Keep_api_Keep_rule_Check_2_0 (x0 : (List Keep)) (x7 : Int) (x8 : Int) : roundF g_slices_IndexFunc_api_Keep_api_Keep_rule_Check_2 fg_slices_IndexFunc_api_Keep_api_Keep_rule_Check_2_0 tb_slices_IndexFunc_api_Keep_api_Keep_rule_Check_2_0 (st_slices_IndexFunc_api_Keep_api_Keep_rule_Check_2_0 x0 x7 x8) = b_slices_IndexFunc_api_Keep_api_Keep_rule_Check_2_0 x0 x7 x8 := by kernel_rfl
theorem ln_slices_IndexFunc_api_Keep_api_Keep_rule_Check_2_0 (x0 : (List Keep)) (x7 : Int) (x8 : Int) : lp_slices_IndexFunc_api_Keep_api_Keep_rule_Check_2_0 x0 x7 x8 = n_slices_IndexFunc_api_Keep_api_Keep_rule_Check_2_0 x0 x7 x8 := (loopF_nxt _ _).trans (by
  rw [be_slices_IndexFunc_api_Keep_api_Keep_rule_Check_2_0]
  simp only [b_slices_IndexFunc_api_Keep_api_Keep_rule_Check_2_0, n_slices_IndexFunc_api_Keep_api_Keep_rule_Check_2_0, nxt_br, nxt_n, nxt_r, nxt_e, nxt_0]
  rfl)
def r_slices_IndexFunc_api_Keep_api_Keep_rule_Check_2 (p0 : (List Keep)) : Option (V × List VO) :=
  br ((rngOk p0 (llen p0) (0 : Int)))
    (br (((fstN keptN (p0.drop (0 : Int).toNat)).isSome))
      (some (.t tI ((0 : Int) + ((fstN keptN (p0.drop (0 : Int).toNat)).getD 0 : Nat)), []))
      (some (.t tI (-1), [])))
    (none)
theorem e_slices_IndexFunc_api_Keep_api_Keep_rule_Check_2 (p0 : (List Keep)) : runF g_slices_IndexFunc_api_Keep_api_Keep_rule_Check_2 tc_slices_IndexFunc_api_Keep_api_Keep_rule_Check_2 rv_slices_IndexFunc_api_Keep_api_Keep_rule_Check_2 false [.t (.sl tyKeep) p0, .c (.func (.func 47) ⟨[]⟩ ⟨[]⟩)] [] = r_slices_IndexFunc_api_Keep_api_Keep_rule_Check_2 p0 := by kernel_rfl
theorem ok_slices_IndexFunc_api_Keep_api_Keep_rule_Check_2 : Option.map (trC Try.prog) Try.f61.body = some tc_slices_IndexFunc_api_Keep_api_Keep_rule_Check_2.er := by kernel_rfl
theorem rok_slices_IndexFunc_api_Keep_api_Keep_rule_Check_2 : trVs Try.prog Try.f61.results.toList = some (rv_slices_IndexFunc_api_Keep_api_Keep_rule_Check_2.map Prod.fst) := by kernel_rfl
theorem en_slices_IndexFunc_api_Keep_api_Keep_rule_Check_2 : Entered Try.prog 61 := .inr ⟨by decide, _, Try.func61, by kernel_rfl, by kernel_rfl⟩
theorem gk_slices_IndexFunc_api_Keep_api_Keep_rule_Check_2 : GOk Try.prog g_slices_IndexFunc_api_Keep_api_Keep_rule_Check_2 := gok_of _ (by
  intro p hp
  simp only [List.mem_cons, List.not_mem_nil, or_false] at hp
  rcases hp with rfl
  · exact ⟨en_rule_Check_2, ms_rule_Check_2⟩)
theorem l_slices_IndexFunc_api_Keep_api_Keep_rule_Check_2_0 (x0 : (List Keep)) (x7 : Int) (x8 : Int) (h : (rngOk x0 x7 x8) = true) : lp_slices_IndexFunc_api_Keep_api_Keep_rule_Check_2_0 x0 x7 x8 = la_slices_IndexFunc_api_Keep_api_Keep_rule_Check_2_0 x0 x7 x8 := by
  obtain ⟨rfl, h3, k, rfl, hk⟩ := rng_k h
  clear h
  refine range_ind x0 (fun k => lp_slices_IndexFunc_api_Keep_api_Keep_rule_Check_2_0 x0 (x0.length : Int) (k : Int) = la_slices_IndexFunc_api_Keep_api_Keep_rule_Check_2_0 x0 (x0.length : Int) (k : Int)) ?_ ?_ k hk
  · rw [ln_slices_IndexFunc_api_Keep_api_Keep_rule_Check_2_0]
    simp [n_slices_IndexFunc_api_Keep_api_Keep_rule_Check_2_0, la_slices_IndexFunc_api_Keep_api_Keep_rule_Check_2_0, ilt_nat, br_false, fstN]
  · intro k hk ih
    rw [ln_slices_IndexFunc_api_Keep_api_Keep_rule_Check_2_0]
    simp only [n_slices_IndexFunc_api_Keep_api_Keep_rule_Check_2_0, ilt_nat, cIx_nat, hk, decide_true, br_true, Int.toNat_natCast, add1 (show k < 4611686018427387904 by omega), ih, lgt_get (y := tyKeep) hk]
    simp only [la_slices_IndexFunc_api_Keep_api_Keep_rule_Check_2_0, Int.toNat_natCast, List.drop_eq_getElem_cons hk, fstN]
    cases h : keptN x0[k] with
    | true => simp [br_true]
    | false =>
      simp only [br_false, Bool.false_eq_true, if_false]
      cases hq : fstN keptN (x0.drop (k + 1)) with
      | none => rfl
      | some j =>
        simp only [Option.map_some, Option.isSome_some, Option.getD_some, br_true]
        congr 3
        omega
theorem lo_slices_IndexFunc_api_Keep_api_Keep_rule_Check_2_0 : ∀ S l p, g_slices_IndexFunc_api_Keep_api_Keep_rule_Check_2.L 0 (fgt fg_slices_IndexFunc_api_Keep_api_Keep_rule_Check_2_0 S) = some (true, l) → pickA l = some p → loopF (roundF g_slices_IndexFunc_api_Keep_api_Keep_rule_Check_2 fg_slices_IndexFunc_api_Keep_api_Keep_rule_Check_2_0 tb_slices_IndexFunc_api_Keep_api_Keep_rule_Check_2_0) S = some p :=
  lok_of (s := sh_slices_IndexFunc_api_Keep_api_Keep_rule_Check_2_0) ⟨by decide, by decide⟩ (by kernel_rfl) fun x y hok p hp => by
  simp only [pickA_br, pickA_one] at hp
  exact (l_slices_IndexFunc_api_Keep_api_Keep_rule_Check_2_0 x.1 x.2.2.1 x.2.2.2.1 (by simpa using hok)).trans hp
theorem lk_slices_IndexFunc_api_Keep_api_Keep_rule_Check_2 : tc_slices_IndexFunc_api_Keep_api_Keep_rule_Check_2.lok g_slices_IndexFunc_api_Keep_api_Keep_rule_Check_2 := by
  repeat (first | exact trivial | exact lo_slices_IndexFunc_api_Keep_api_Keep_rule_Check_2_0 | refine ⟨?_, ?_⟩)
theorem s_slices_IndexFunc_api_Keep_api_Keep_rule_Check_2 (l : List Keep) (h : lenOk5 l = true) : r_slices_IndexFunc_api_Keep_api_Keep_rule_Check_2 l = some (.t tI (fstKeep l), []) := by
  simp only [lenOk5, decide_eq_true_eq] at h
  simp only [r_slices_IndexFunc_api_Keep_api_Keep_rule_Check_2, rng_0 h, br_true, Int.toNat_zero, List.drop_zero, fstKeep]
  cases fstN keptN l <;> simp [br_true, br_false]
def sp_slices_IndexFunc_api_Keep_api_Keep_rule_Check_2 : Ent := specH [.ty (.sl tyKeep), .cf 47] [] (fun x d => (lenOk5 x.1)) (fun x d => (.t tI (fstKeep x.1)))
theorem ms_slices_IndexFunc_api_Keep_api_Keep_rule_Check_2 : Meets Try.prog 61 (strip sp_slices_IndexFunc_api_Keep_api_Keep_rule_Check_2) := by
  obtain ⟨c, hc, hi⟩ := Option.map_eq_some_iff.1 ok_slices_IndexFunc_api_Keep_api_Keep_rule_Check_2
  exact meets_specH (R := runF g_slices_IndexFunc_api_Keep_api_Keep_rule_Check_2 tc_slices_IndexFunc_api_Keep_api_Keep_rule_Check_2 rv_slices_IndexFunc_api_Keep_api_Keep_rule_Check_2 false) (meets_of (by decide) Try.func61 hc hi Try.ntmps61 rok_slices_IndexFunc_api_Keep_api_Keep_rule_Check_2 gk_slices_IndexFunc_api_Keep_api_Keep_rule_Check_2 lk_slices_IndexFunc_api_Keep_api_Keep_rule_Check_2 mixed) fun x d hok => (e_slices_IndexFunc_api_Keep_api_Keep_rule_Check_2 x.1).trans (s_slices_IndexFunc_api_Keep_api_Keep_rule_Check_2 x.1 hok)
def anyKeep (l : List Keep) : Bool := l.any keptN
/-- slices.ContainsFunc[[]cipherplan/api.Keep,cipherplan/api.Keep] -/
def tc_slices_ContainsFunc_api_Keep_api_Keep_rule_Check_2 : TC := (.sq (.reg [(.mk (some 4) none (.m (.pu (.mv (.c (.v (.bool false)))))))]) (.sq (.reg [(.mk (some 5) none (.m (.pu (.mv (.t 0))))), (.mk (some 6) none (.m (.pu (.mv (.t 1))))), (.mk (some 7) none (.call 61 [(.t 5), (.t 6)])), (.mk (some 8) none (.m (.pu (.bin false .geq (.t 7) (.c (.v (.int .i64 0))))))), (.mk (some 4) none (.m (.pu (.mv (.t 8)))))]) .rt))
def rv_slices_ContainsFunc_api_Keep_api_Keep_rule_Check_2 : List (RV × Option Ty) := [((.t 4), some .bool)]
def g_slices_ContainsFunc_api_Keep_api_Keep_rule_Check_2 : G := ⟨TYs, [], 9, EL [(61, sp_slices_IndexFunc_api_Keep_api_Keep_rule_Check_2)], keeps, (fun _ _ => none), IL [], RL []⟩
def r_slices_ContainsFunc_api_Keep_api_Keep_rule_Check_2 (p0 : (List Keep)) : Option (V × List VO) :=
  br ((lenOk5 p0))
    (some (.t .bool (ige (fstKeep p0) 0), []))
    (none)
theorem e_slices_ContainsFunc_api_Keep_api_Keep_rule_Check_2 (p0 : (List Keep)) : runF g_slices_ContainsFunc_api_Keep_api_Keep_rule_Check_2 tc_slices_ContainsFunc_api_Keep_api_Keep_rule_Check_2 rv_slices_ContainsFunc_api_Keep_api_Keep_rule_Check_2 false [.t (.sl tyKeep) p0, .c (.func (.func 47) ⟨[]⟩ ⟨[]⟩)] [] = r_slices_ContainsFunc_api_Keep_api_Keep_rule_Check_2 p0 := by kernel_rfl
theorem ok_slices_ContainsFunc_api_Keep_api_Keep_rule_Check_2 : Option.map (trC Try.prog) Try.f46.body = some tc_slices_ContainsFunc_api_Keep_api_Keep_rule_Check_2.er := by kernel_rfl
theorem rok_slices_ContainsFunc_api_Keep_api_Keep_rule_Check_2 : trVs Try.prog Try.f46.results.toList = some (rv_slices_ContainsFunc_api_Keep_api_Keep_rule_Check_2.map Prod.fst) := by kernel_rfl
theorem en_slices_ContainsFunc_api_Keep_api_Keep_rule_Check_2 : Entered Try.prog 46 := .inr ⟨by decide, _, Try.func46, by kernel_rfl, by kernel_rfl⟩
theorem gk_slices_ContainsFunc_api_Keep_api_Keep_rule_Check_2 : GOk Try.prog g_slices_ContainsFunc_api_Keep_api_Keep_rule_Check_2 := gok_of _ (by
  intro p hp
  simp only [List.mem_cons, List.not_mem_nil, or_false] at hp
  rcases hp with rfl
  · exact ⟨en_slices_IndexFunc_api_Keep_api_Keep_rule_Check_2, ms_slices_IndexFunc_api_Keep_api_Keep_rule_Check_2⟩)
theorem lk_slices_ContainsFunc_api_Keep_api_Keep_rule_Check_2 : tc_slices_ContainsFunc_api_Keep_api_Keep_rule_Check_2.lok g_slices_ContainsFunc_api_Keep_api_Keep_rule_Check_2 := by repeat (first | exact trivial | refine ⟨?_, ?_⟩)
theorem s_slices_ContainsFunc_api_Keep_api_Keep_rule_Check_2 (l : List Keep) (h : lenOk5 l = true) : r_slices_ContainsFunc_api_Keep_api_Keep_rule_Check_2 l = some (.t .bool (anyKeep l), []) := by
  simp only [r_slices_ContainsFunc_api_Keep_api_Keep_rule_Check_2, h, br_true]
  congr 3
  unfold fstKeep anyKeep
  cases hq : fstN keptN l with
  | none => rw [fstN_none.1 hq]; rfl
  | some k => rw [fstN_some hq]; simp only [ige, decide_eq_true_eq]; omega
def sp_slices_ContainsFunc_api_Keep_api_Keep_rule_Check_2 : Ent := specH [.ty (.sl tyKeep), .cf 47] [] (fun x d => (lenOk5 x.1)) (fun x d => (.t .bool (anyKeep x.1)))
theorem ms_slices_ContainsFunc_api_Keep_api_Keep_rule_Check_2 : Meets Try.prog 46 (strip sp_slices_ContainsFunc_api_Keep_api_Keep_rule_Check_2) := by
  obtain ⟨c, hc, hi⟩ := Option.map_eq_some_iff.1 ok_slices_ContainsFunc_api_Keep_api_Keep_rule_Check_2
  exact meets_specH (R := runF g_slices_ContainsFunc_api_Keep_api_Keep_rule_Check_2 tc_slices_ContainsFunc_api_Keep_api_Keep_rule_Check_2 rv_slices_ContainsFunc_api_Keep_api_Keep_rule_Check_2 false) (meets_of (by decide) Try.func46 hc hi Try.ntmps46 rok_slices_ContainsFunc_api_Keep_api_Keep_rule_Check_2 gk_slices_ContainsFunc_api_Keep_api_Keep_rule_Check_2 lk_slices_ContainsFunc_api_Keep_api_Keep_rule_Check_2 mixed) fun x d hok => (e_slices_ContainsFunc_api_Keep_api_Keep_rule_Check_2 x.1).trans (s_slices_ContainsFunc_api_Keep_api_Keep_rule_Check_2 x.1 hok)

/-! Check -/
theorem igt60 {α : Type} {l : List α} : igt (llen l) 60 = !decide (l.length ≤ 60) := by
  have : igt (llen l) 60 = decide (60 < l.length) := igt_nat
  rw [this]
  by_cases h : l.length ≤ 60
  · rw [decide_eq_true h, Bool.not_true, decide_eq_false_iff_not]; omega
  · rw [decide_eq_false h, Bool.not_false, decide_eq_true_eq]; omega
def polOk (y : Policy) : Bool := y.1.all ruledF && y.2.1.all keptF && decide (y.1.length ≤ 60 ∧ y.2.1.length ≤ 60)
def checkF (y : Policy) : Int := if polOk y then 0 else 25
def polLen (y : Policy) : Bool := lenOk5 y.1 && lenOk5 y.2.1
/-- cipherplan/rule.Check -/
def tc_rule_Check : TC := (.sq (.reg [(.mk (some 1) none (.m (.box (.t 0)))), (.mk (some 2) none (.m (.pu (.mv (.c (.v (.int .i64 0)))))))]) (.sq (.reg [(.mk (some 4) none (.m (.pu (.fa 0 (.t 1))))), (.mk (some 5) none (.m (.ld false 1 (.t 4)))), (.mk (some 6) none (.call 43 [(.t 5), (.c (.v (.func (.func 44) #[] #[])))])), (.mk (some 7) none (.m (.pu (.mv (.t 6))))), (.mk (some 8) (some (7, false)) (.m (.pu (.fa 1 (.t 1))))), (.mk (some 9) (some (7, false)) (.m (.ld false 1 (.t 8)))), (.mk (some 10) (some (7, false)) (.call 46 [(.t 9), (.c (.v (.func (.func 47) #[] #[])))])), (.mk (some 11) none (.m (.pu (.pick (.t 7) (.c (.v (.bool true))) (.t 10))))), (.mk (some 3) none (.m (.pu (.mv (.t 11)))))]) (.sq (.sq (.reg [(.mk (some 12) none (.m (.pu (.mv (.t 3))))), (.mk (some 13) none (.m (.pu (.mv (.t 12))))), (.mk (some 14) (some (13, false)) (.m (.pu (.fa 0 (.t 1))))), (.mk (some 15) (some (13, false)) (.m (.ld false 1 (.t 14)))), (.mk (some 16) (some (13, false)) (.m (.pu (.len false (.t 15))))), (.mk (some 17) (some (13, false)) (.m (.pu (.bin false .gtr (.t 16) (.c (.v (.int .i64 60))))))), (.mk (some 18) none (.m (.pu (.pick (.t 13) (.c (.v (.bool true))) (.t 17))))), (.mk (some 19) none (.m (.pu (.mv (.t 18))))), (.mk (some 20) (some (19, false)) (.m (.pu (.fa 1 (.t 1))))), (.mk (some 21) (some (19, false)) (.m (.ld false 1 (.t 20)))), (.mk (some 22) (some (19, false)) (.m (.pu (.len false (.t 21))))), (.mk (some 23) (some (19, false)) (.m (.pu (.bin false .gtr (.t 22) (.c (.v (.int .i64 60))))))), (.mk (some 24) none (.m (.pu (.pick (.t 19) (.c (.v (.bool true))) (.t 23)))))]) (.cd (.t 24) (.sq (.reg [(.mk (some 2) none (.m (.pu (.mv (.c (.v (.int .i64 25)))))))]) .rt) .sk)) (.sq (.reg [(.mk (some 2) none (.m (.pu (.mv (.c (.v (.int .i64 0)))))))]) .rt))))
def rv_rule_Check : List (RV × Option Ty) := [((.t 2), some tI)]
def g_rule_Check : G := ⟨TYs, [], 25, EL [(43, sp_slices_ContainsFunc_api_Rule_api_Rule_rule_Check_1), (46, sp_slices_ContainsFunc_api_Keep_api_Keep_rule_Check_2)], keeps, (fun _ _ => none), IL [], RL []⟩
def r_rule_Check (p0 : Policy) : Option (V × List VO) :=
  br ((lenOk5 p0.1))
    (br ((anyRule p0.1))
      (some (.t tI 25, []))
      (br ((lenOk5 p0.2.1))
        (br ((anyKeep p0.2.1))
          (some (.t tI 25, []))
          (br ((igt (llen p0.1) 60))
            (some (.t tI 25, []))
            (br ((igt (llen p0.2.1) 60))
              (some (.t tI 25, []))
              (some (.t tI 0, [])))))
        (none)))
    (none)
theorem e_rule_Check (p0 : Policy) : runF g_rule_Check tc_rule_Check rv_rule_Check false [.t tyPolicy p0] [] = r_rule_Check p0 := by kernel_rfl
theorem ok_rule_Check : Option.map (trC Try.prog) Try.f32.body = some tc_rule_Check.er := by kernel_rfl
theorem rok_rule_Check : trVs Try.prog Try.f32.results.toList = some (rv_rule_Check.map Prod.fst) := by kernel_rfl
theorem en_rule_Check : Entered Try.prog 32 := .inr ⟨by decide, _, Try.func32, by kernel_rfl, by kernel_rfl⟩
theorem gk_rule_Check : GOk Try.prog g_rule_Check := gok_of _ (by
  intro p hp
  simp only [List.mem_cons, List.not_mem_nil, or_false] at hp
  rcases hp with rfl | rfl
  · exact ⟨en_slices_ContainsFunc_api_Rule_api_Rule_rule_Check_1, ms_slices_ContainsFunc_api_Rule_api_Rule_rule_Check_1⟩
  · exact ⟨en_slices_ContainsFunc_api_Keep_api_Keep_rule_Check_2, ms_slices_ContainsFunc_api_Keep_api_Keep_rule_Check_2⟩)
theorem lk_rule_Check : tc_rule_Check.lok g_rule_Check := by repeat (first | exact trivial | refine ⟨?_, ?_⟩)
theorem s_rule_Check (y : Policy) (h : polLen y = true) : r_rule_Check y = some (.t tI (checkF y), []) := by
  simp only [polLen, Bool.and_eq_true] at h
  simp only [r_rule_Check, h.1, h.2, br_true]
  have e1 : anyRule y.1 = !y.1.all ruledF := by simp [anyRule, List.any_eq_not_all_not, ruledN]
  have e2 : anyKeep y.2.1 = !y.2.1.all keptF := by simp [anyKeep, List.any_eq_not_all_not, keptN]
  rw [e1, e2]
  unfold checkF polOk
  rw [igt60, igt60]
  by_cases h1 : y.1.length ≤ 60 <;> by_cases h2 : y.2.1.length ≤ 60 <;> cases y.1.all ruledF <;> cases y.2.1.all keptF <;> simp [br_true, br_false, h1, h2]
def sp_rule_Check : Ent := spec (.pr tyPolicy .nil) (fun x => (polLen x.1)) (fun x => (.t tI (checkF x.1)))
theorem ms_rule_Check : Meets Try.prog 32 (strip sp_rule_Check) := by
  obtain ⟨c, hc, hi⟩ := Option.map_eq_some_iff.1 ok_rule_Check
  exact meets_spec (R := runF g_rule_Check tc_rule_Check rv_rule_Check false) (meets_of (by decide) Try.func32 hc hi Try.ntmps32 rok_rule_Check gk_rule_Check lk_rule_Check mixed) fun x hok => (e_rule_Check x.1).trans (s_rule_Check x.1 hok)

/-! the answer's Check -/
def fg_ref17_Check_0 : Fg := ⟨[(1, none), (3, some tI)], [(1, some tyPolicy)]⟩
def tb_ref17_Check_0 : TC := (.sq (.sq (.reg [(.mk (some 15) none (.m (.pu (.mv (.t 3))))), (.mk (some 16) none (.m (.pu (.fa 0 (.t 1))))), (.mk (some 17) none (.m (.ld false 1 (.t 16)))), (.mk (some 18) none (.m (.pu (.len false (.t 17))))), (.mk (some 19) none (.m (.pu (.bin false .lss (.t 15) (.t 18)))))]) (.cd (.t 19) .sk (.fg ⟨[(1, none)], [(1, some tyPolicy)]⟩ (.ex 0)))) (.sq (.bk 1 (.sq (.reg [(.mk (some 22) none (.m (.pu (.fa 0 (.t 1))))), (.mk (some 23) none (.m (.ld false 1 (.t 22)))), (.mk (some 24) none (.m (.pu (.mv (.t 3))))), (.mk (some 25) none (.m (.pu (.ix 6 (.t 23) (.t 24))))), (.mk (some 26) none (.m (.ld true 6 (.t 25)))), (.mk (some 27) none (.call 64 [(.t 26)])), (.mk (some 28) none (.m (.pu (.nt (.t 27)))))]) (.cd (.t 28) (.sq (.reg [(.mk (some 2) none (.m (.pu (.mv (.c (.v (.int .i64 25)))))))]) (.fg ⟨[(2, some tI)], []⟩ .rt)) .sk))) (.reg [(.mk (some 20) none (.m (.pu (.mv (.t 3))))), (.mk (some 21) none (.m (.pu (.bin false .add (.t 20) (.c (.v (.int .i64 1))))))), (.mk (some 3) none (.m (.pu (.mv (.t 21)))))])))
def fg_ref17_Check_1 : Fg := ⟨[(1, none), (4, some tI)], [(1, some tyPolicy)]⟩
def tb_ref17_Check_1 : TC := (.sq (.sq (.reg [(.mk (some 29) none (.m (.pu (.mv (.t 4))))), (.mk (some 30) none (.m (.pu (.fa 1 (.t 1))))), (.mk (some 31) none (.m (.ld false 1 (.t 30)))), (.mk (some 32) none (.m (.pu (.len false (.t 31))))), (.mk (some 33) none (.m (.pu (.bin false .lss (.t 29) (.t 32)))))]) (.cd (.t 33) .sk (.fg ⟨[], []⟩ (.ex 2)))) (.sq (.bk 3 (.sq (.reg [(.mk (some 36) none (.m (.pu (.fa 1 (.t 1))))), (.mk (some 37) none (.m (.ld false 1 (.t 36)))), (.mk (some 38) none (.m (.pu (.mv (.t 4))))), (.mk (some 39) none (.m (.pu (.ix 2 (.t 37) (.t 38))))), (.mk (some 40) none (.m (.ld true 2 (.t 39)))), (.mk (some 41) none (.call 65 [(.t 40)])), (.mk (some 42) none (.m (.pu (.nt (.t 41)))))]) (.cd (.t 42) (.sq (.reg [(.mk (some 2) none (.m (.pu (.mv (.c (.v (.int .i64 25)))))))]) (.fg ⟨[(2, some tI)], []⟩ .rt)) .sk))) (.reg [(.mk (some 34) none (.m (.pu (.mv (.t 4))))), (.mk (some 35) none (.m (.pu (.bin false .add (.t 34) (.c (.v (.int .i64 1))))))), (.mk (some 4) none (.m (.pu (.mv (.t 35)))))])))
/-- cipherplan/cipherplanref17.Check -/
def tc_ref17_Check : TC := (.sq (.reg [(.mk (some 1) none (.m (.box (.t 0)))), (.mk (some 2) none (.m (.pu (.mv (.c (.v (.int .i64 0)))))))]) (.sq (.sq (.reg [(.mk (some 5) none (.m (.pu (.fa 0 (.t 1))))), (.mk (some 6) none (.m (.ld false 1 (.t 5)))), (.mk (some 7) none (.m (.pu (.len false (.t 6))))), (.mk (some 8) none (.m (.pu (.bin false .gtr (.t 7) (.c (.v (.int .i64 60))))))), (.mk (some 9) none (.m (.pu (.mv (.t 8))))), (.mk (some 10) (some (9, false)) (.m (.pu (.fa 1 (.t 1))))), (.mk (some 11) (some (9, false)) (.m (.ld false 1 (.t 10)))), (.mk (some 12) (some (9, false)) (.m (.pu (.len false (.t 11))))), (.mk (some 13) (some (9, false)) (.m (.pu (.bin false .gtr (.t 12) (.c (.v (.int .i64 60))))))), (.mk (some 14) none (.m (.pu (.pick (.t 9) (.c (.v (.bool true))) (.t 13)))))]) (.cd (.t 14) (.sq (.reg [(.mk (some 2) none (.m (.pu (.mv (.c (.v (.int .i64 25)))))))]) .rt) .sk)) (.sq (.sq (.reg [(.mk (some 3) none (.m (.pu (.mv (.c (.v (.int .i64 0)))))))]) (.bk 0 (.lp 0 fg_ref17_Check_0 tb_ref17_Check_0))) (.sq (.sq (.reg [(.mk (some 4) none (.m (.pu (.mv (.c (.v (.int .i64 0)))))))]) (.bk 2 (.lp 1 fg_ref17_Check_1 tb_ref17_Check_1))) (.sq (.reg [(.mk (some 2) none (.m (.pu (.mv (.c (.v (.int .i64 0)))))))]) .rt)))))
def rv_ref17_Check : List (RV × Option Ty) := [((.t 2), some tI)]
abbrev sh_ref17_Check_0 : Sh := ⟨[(1, .ptr 1 0), (3, .ty tI)], [(1, .box tyPolicy)]⟩
def st_ref17_Check_0 (x3 : Int) (y1 : Policy) : VS := sh_ref17_Check_0.st ((), x3, ()) (y1, ())
abbrev sh_ref17_Check_0_ret : Sh := ⟨[(2, .ty tI)], []⟩
def st_ref17_Check_0_ret (x2 : Int) : VS := sh_ref17_Check_0_ret.st (x2, ()) ()
abbrev sh_ref17_Check_0_e0 : Sh := ⟨[(1, .ptr 1 0)], [(1, .box tyPolicy)]⟩
def st_ref17_Check_0_e0 (y1 : Policy) : VS := sh_ref17_Check_0_e0.st ((), ()) (y1, ())
-- loop 0: (x3 : Int) (y1 : Policy); out: ('ret',) (x2 : Int); ('exit', 0) (y1 : Policy)
abbrev sh_ref17_Check_1 : Sh := ⟨[(1, .ptr 1 0), (4, .ty tI)], [(1, .box tyPolicy)]⟩
def st_ref17_Check_1 (x4 : Int) (y1 : Policy) : VS := sh_ref17_Check_1.st ((), x4, ()) (y1, ())
abbrev sh_ref17_Check_1_ret : Sh := ⟨[(2, .ty tI)], []⟩
def st_ref17_Check_1_ret (x2 : Int) : VS := sh_ref17_Check_1_ret.st (x2, ()) ()
abbrev sh_ref17_Check_1_e2 : Sh := ⟨[], []⟩
def st_ref17_Check_1_e2  : VS := sh_ref17_Check_1_e2.st () ()
-- loop 1: (x4 : Int) (y1 : Policy); out: ('ret',) (x2 : Int); ('exit', 2) 
def L_ref17_Check_0 : VS → Option (Bool × List (Bool × Exit × VS)) := mkL sh_ref17_Check_0 (fun x y => (decide (0 ≤ x.2.1 ∧ x.2.1 ≤ y.1.1.length ∧ y.1.1.length ≤ 100000))) (fun x y => [(((y.1.1.drop x.2.1.toNat).any ruledN), .ret, st_ref17_Check_0_ret (25)), (true, .exit 0, st_ref17_Check_0_e0 (y.1))])
def L_ref17_Check_1 : VS → Option (Bool × List (Bool × Exit × VS)) := mkL sh_ref17_Check_1 (fun x y => (decide (0 ≤ x.2.1 ∧ x.2.1 ≤ y.1.2.1.length ∧ y.1.2.1.length ≤ 100000))) (fun x y => [(((y.1.2.1.drop x.2.1.toNat).any keptN), .ret, st_ref17_Check_1_ret (25)), (true, .exit 2, st_ref17_Check_1_e2)])
def g_ref17_Check : G := ⟨TYs, [], 43, EL [(64, sp_ref17_Ruled), (65, sp_ref17_kept)], keeps, (Ls [L_ref17_Check_0, L_ref17_Check_1]), IL [], RL []⟩
def b_ref17_Check_0 (x3 : Int) (y1 : Policy) : Option (Exit × VS) :=
  br ((ilt x3 (llen y1.1)))
    (br (cIx y1.1 x3)
      (br ((!(ruledF (lgt tyRule y1.1 (Int.toNat x3)))))
        (some (.ret, st_ref17_Check_0_ret 25))
        (some (.normal, st_ref17_Check_0 (iadd .i64 x3 1) y1)))
      (none))
    (some (.exit 0, st_ref17_Check_0_e0 y1))
noncomputable def lp_ref17_Check_0 (x3 : Int) (y1 : Policy) : Option (Exit × VS) := loopF (roundF g_ref17_Check fg_ref17_Check_0 tb_ref17_Check_0) (st_ref17_Check_0 x3 y1)
noncomputable def n_ref17_Check_0 (x3 : Int) (y1 : Policy) : Option (Exit × VS) :=
  br ((ilt x3 (llen y1.1)))
    (br (cIx y1.1 x3)
      (br ((!(ruledF (lgt tyRule y1.1 (Int.toNat x3)))))
        (some (.ret, st_ref17_Check_0_ret 25))
        (lp_ref17_Check_0 (iadd .i64 x3 1) y1))
      (none))
    (some (.exit 0, st_ref17_Check_0_e0 y1))
def la_ref17_Check_0 (x3 : Int) (y1 : Policy) : Option (Exit × VS) := br ((y1.1.drop x3.toNat).any ruledN) (some (.ret, st_ref17_Check_0_ret (25))) <| some (.exit 0, st_ref17_Check_0_e0 (y1))
theorem be_ref17_Check_0 (x3 : Int) (y1 : Policy) : roundF g_ref17_Check fg_ref17_Check_0 tb_ref17_Check_0 (st_ref17_Check_0 x3 y1) = b_ref17_Check_0 x3 y1 := by kernel_rfl
theorem ln_ref17_Check_0 (x3 : Int) (y1 : Policy) : lp_ref17_Check_0 x3 y1 = n_ref17_Check_0 x3 y1 := (loopF_nxt _ _).trans (by
  rw [be_ref17_Check_0]
  simp only [b_ref17_Check_0, n_ref17_Check_0, nxt_br, nxt_n, nxt_r, nxt_e, nxt_0]
  rfl)
def b_ref17_Check_1 (x4 : Int) (y1 : Policy) : Option (Exit × VS) :=
  br ((ilt x4 (llen y1.2.1)))
    (br (cIx y1.2.1 x4)
      (br ((!(keptF (lgt tyKeep y1.2.1 (Int.toNat x4)))))
        (some (.ret, st_ref17_Check_1_ret 25))
        (some (.normal, st_ref17_Check_1 (iadd .i64 x4 1) y1)))
      (none))
    (some (.exit 2, st_ref17_Check_1_e2))
noncomputable def lp_ref17_Check_1 (x4 : Int) (y1 : Policy) : Option (Exit × VS) := loopF (roundF g_ref17_Check fg_ref17_Check_1 tb_ref17_Check_1) (st_ref17_Check_1 x4 y1)
noncomputable def n_ref17_Check_1 (x4 : Int) (y1 : Policy) : Option (Exit × VS) :=
  br ((ilt x4 (llen y1.2.1)))
    (br (cIx y1.2.1 x4)
      (br ((!(keptF (lgt tyKeep y1.2.1 (Int.toNat x4)))))
        (some (.ret, st_ref17_Check_1_ret 25))
        (lp_ref17_Check_1 (iadd .i64 x4 1) y1))
      (none))
    (some (.exit 2, st_ref17_Check_1_e2))
def la_ref17_Check_1 (x4 : Int) (y1 : Policy) : Option (Exit × VS) := br ((y1.2.1.drop x4.toNat).any keptN) (some (.ret, st_ref17_Check_1_ret (25))) <| some (.exit 2, st_ref17_Check_1_e2)
theorem be_ref17_Check_1 (x4 : Int) (y1 : Policy) : roundF g_ref17_Check fg_ref17_Check_1 tb_ref17_Check_1 (st_ref17_Check_1 x4 y1) = b_ref17_Check_1 x4 y1 := by kernel_rfl
theorem ln_ref17_Check_1 (x4 : Int) (y1 : Policy) : lp_ref17_Check_1 x4 y1 = n_ref17_Check_1 x4 y1 := (loopF_nxt _ _).trans (by
  rw [be_ref17_Check_1]
  simp only [b_ref17_Check_1, n_ref17_Check_1, nxt_br, nxt_n, nxt_r, nxt_e, nxt_0]
  rfl)
def r_ref17_Check (p0 : Policy) : Option (V × List VO) :=
  br ((igt (llen p0.1) 60))
    (some (.t tI 25, []))
    (br ((igt (llen p0.2.1) 60))
      (some (.t tI 25, []))
      (br ((decide (0 ≤ (0 : Int) ∧ (0 : Int) ≤ p0.1.length ∧ p0.1.length ≤ 100000)))
        (br (((p0.1.drop (0 : Int).toNat).any ruledN))
          (some (.t tI (25), []))
          (br ((decide (0 ≤ (0 : Int) ∧ (0 : Int) ≤ (p0).2.1.length ∧ (p0).2.1.length ≤ 100000)))
            (br ((((p0).2.1.drop (0 : Int).toNat).any keptN))
              (some (.t tI (25), []))
              (some (.t tI 0, [])))
            (none)))
        (none)))
theorem e_ref17_Check (p0 : Policy) : runF g_ref17_Check tc_ref17_Check rv_ref17_Check false [.t tyPolicy p0] [] = r_ref17_Check p0 := by kernel_rfl
theorem ok_ref17_Check : Option.map (trC Try.prog) Try.f52.body = some tc_ref17_Check.er := by kernel_rfl
theorem rok_ref17_Check : trVs Try.prog Try.f52.results.toList = some (rv_ref17_Check.map Prod.fst) := by kernel_rfl
theorem en_ref17_Check : Entered Try.prog 52 := .inr ⟨by decide, _, Try.func52, by kernel_rfl, by kernel_rfl⟩
theorem gk_ref17_Check : GOk Try.prog g_ref17_Check := gok_of _ (by
  intro p hp
  simp only [List.mem_cons, List.not_mem_nil, or_false] at hp
  rcases hp with rfl | rfl
  · exact ⟨en_ref17_Ruled, ms_ref17_Ruled⟩
  · exact ⟨en_ref17_kept, ms_ref17_kept⟩)
theorem l_ref17_Check_0 (x3 : Int) (y1 : Policy) (h : (decide (0 ≤ x3 ∧ x3 ≤ y1.1.length ∧ y1.1.length ≤ 100000)) = true) : lp_ref17_Check_0 x3 y1 = la_ref17_Check_0 x3 y1 := by
  simp only [decide_eq_true_eq] at h
  obtain ⟨h1, h2, h3⟩ := h
  obtain ⟨k, rfl⟩ := Int.eq_ofNat_of_zero_le h1
  refine range_ind y1.1 (fun k => lp_ref17_Check_0 (k : Int) y1 = la_ref17_Check_0 (k : Int) y1) ?_ ?_ k (by omega)
  · rw [ln_ref17_Check_0]
    simp [n_ref17_Check_0, la_ref17_Check_0, ilt_nat, llen, br_false]
  · intro k hk ih
    rw [ln_ref17_Check_0]
    simp only [n_ref17_Check_0, ilt_nat, llen, cIx_nat, hk, decide_true, br_true, Int.toNat_natCast, add1 (show k < 4611686018427387904 by omega), ih, lgt_get (y := tyRule) hk]
    simp only [la_ref17_Check_0, Int.toNat_natCast, List.drop_eq_getElem_cons hk, List.any_cons, ruledN]
    cases ruledF y1.1[k] <;> simp [br_true, br_false]
theorem l_ref17_Check_1 (x4 : Int) (y1 : Policy) (h : (decide (0 ≤ x4 ∧ x4 ≤ y1.2.1.length ∧ y1.2.1.length ≤ 100000)) = true) : lp_ref17_Check_1 x4 y1 = la_ref17_Check_1 x4 y1 := by
  simp only [decide_eq_true_eq] at h
  obtain ⟨h1, h2, h3⟩ := h
  obtain ⟨k, rfl⟩ := Int.eq_ofNat_of_zero_le h1
  refine range_ind y1.2.1 (fun k => lp_ref17_Check_1 (k : Int) y1 = la_ref17_Check_1 (k : Int) y1) ?_ ?_ k (by omega)
  · rw [ln_ref17_Check_1]
    simp [n_ref17_Check_1, la_ref17_Check_1, ilt_nat, llen, br_false]
  · intro k hk ih
    rw [ln_ref17_Check_1]
    simp only [n_ref17_Check_1, ilt_nat, llen, cIx_nat, hk, decide_true, br_true, Int.toNat_natCast, add1 (show k < 4611686018427387904 by omega), ih, lgt_get (y := tyKeep) hk]
    simp only [la_ref17_Check_1, Int.toNat_natCast, List.drop_eq_getElem_cons hk, List.any_cons, keptN]
    cases keptF y1.2.1[k] <;> simp [br_true, br_false]
theorem lo_ref17_Check_0 : ∀ S l p, g_ref17_Check.L 0 (fgt fg_ref17_Check_0 S) = some (true, l) → pickA l = some p → loopF (roundF g_ref17_Check fg_ref17_Check_0 tb_ref17_Check_0) S = some p :=
  lok_of (s := sh_ref17_Check_0) ⟨by decide, by decide⟩ (by kernel_rfl) fun x y hok p hp => by
  simp only [pickA_br, pickA_one] at hp
  exact (l_ref17_Check_0 x.2.1 y.1 (by simpa using hok)).trans hp
theorem lo_ref17_Check_1 : ∀ S l p, g_ref17_Check.L 1 (fgt fg_ref17_Check_1 S) = some (true, l) → pickA l = some p → loopF (roundF g_ref17_Check fg_ref17_Check_1 tb_ref17_Check_1) S = some p :=
  lok_of (s := sh_ref17_Check_1) ⟨by decide, by decide⟩ (by kernel_rfl) fun x y hok p hp => by
  simp only [pickA_br, pickA_one] at hp
  exact (l_ref17_Check_1 x.2.1 y.1 (by simpa using hok)).trans hp
theorem lk_ref17_Check : tc_ref17_Check.lok g_ref17_Check := by
  repeat (first | exact trivial | exact lo_ref17_Check_0 | exact lo_ref17_Check_1 | refine ⟨?_, ?_⟩)
theorem s_ref17_Check (y : Policy) (h : polLen y = true) : r_ref17_Check y = some (.t tI (checkF y), []) := by
  simp only [polLen, lenOk5, Bool.and_eq_true, decide_eq_true_eq] at h
  have g1 : decide ((0 : Int) ≤ 0 ∧ (0 : Int) ≤ y.1.length ∧ y.1.length ≤ 100000) = true := by simp [h.1]
  have g2 : decide ((0 : Int) ≤ 0 ∧ (0 : Int) ≤ y.2.1.length ∧ y.2.1.length ≤ 100000) = true := by simp [h.2]
  simp only [r_ref17_Check, g1, g2, br_true, Int.toNat_zero, List.drop_zero]
  have e1 : y.1.any ruledN = !y.1.all ruledF := by simp [List.any_eq_not_all_not, ruledN]
  have e2 : y.2.1.any keptN = !y.2.1.all keptF := by simp [List.any_eq_not_all_not, keptN]
  rw [e1, e2]
  unfold checkF polOk
  rw [igt60, igt60]
  by_cases h1 : y.1.length ≤ 60 <;> by_cases h2 : y.2.1.length ≤ 60 <;> cases y.1.all ruledF <;> cases y.2.1.all keptF <;> simp [br_true, br_false, h1, h2]
def sp_ref17_Check : Ent := spec (.pr tyPolicy .nil) (fun x => (polLen x.1)) (fun x => (.t tI (checkF x.1)))
theorem ms_ref17_Check : Meets Try.prog 52 (strip sp_ref17_Check) := by
  obtain ⟨c, hc, hi⟩ := Option.map_eq_some_iff.1 ok_ref17_Check
  exact meets_spec (R := runF g_ref17_Check tc_ref17_Check rv_ref17_Check false) (meets_of (by decide) Try.func52 hc hi Try.ntmps52 rok_ref17_Check gk_ref17_Check lk_ref17_Check mixed) fun x hok => (e_ref17_Check x.1).trans (s_ref17_Check x.1 hok)
end Go.Proofs.Ytfehjdaielifiaa.K
