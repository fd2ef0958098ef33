/-
  Decisions that are made.
-/
import Derived.Test.YtnimpcffagidoaaKL
import Derived.KernelRfl
set_option linter.unusedSimpArgs false
set_option linter.unusedVariables false
namespace Go.Proofs.Ytnimpcffagidoaa.K
open Go.RowKit
noncomputable section
def adv (d : Dice) : Dice := dnext d 0
theorem dnext_adv (d : Dice) (n : Int) : dnext d n = adv d := rfl
def decV (d : Dice) (a : Decision) : Decision :=
  (a.1 + dval d 3, a.2.1 + dval (adv d) 2, 1 + dval (adv (adv d)) 5, dval (adv (adv (adv d))) 3, dval (adv (adv (adv (adv d)))) 2, ())
def decN (d : Dice) (_a : Decision) : Dice := adv (adv (adv (adv (adv d))))
def decOk (d : Dice) (a : Decision) : Bool := dOk d && decide (0 ≤ a.1 ∧ a.1 ≤ 1000000 ∧ 0 ≤ a.2.1 ∧ a.2.1 ≤ 1000000)
def dr_move_Decision_0 : List DO := [(.mk (.mk (some 5) none (.m (.pu (.fa 0 (.t 3))))) []), (.mk (.mk (some 6) none (.m (.ld false 1 (.t 5)))) [0]), (.mk (.mk (some 7) none (.m (.pu (.mv (.t 0))))) []), (.mk (.mk (some 8) none (.call 25 [(.t 7), (.c (.v (.int .i64 3)))])) [2]), (.mk (.mk (some 9) none (.m (.pu (.bin false .add (.t 6) (.t 8))))) [1, 3]), (.mk (.mk (some 10) none (.m (.pu (.fa 1 (.t 3))))) []), (.mk (.mk (some 11) none (.m (.ld false 1 (.t 10)))) [5]), (.mk (.mk (some 12) none (.m (.pu (.mv (.t 0))))) []), (.mk (.mk (some 13) none (.call 25 [(.t 12), (.c (.v (.int .i64 2)))])) [7, 3]), (.mk (.mk (some 14) none (.m (.pu (.bin false .add (.t 11) (.t 13))))) [6, 8]), (.mk (.mk (some 15) none (.m (.pu (.mv (.t 0))))) []), (.mk (.mk (some 16) none (.call 25 [(.t 15), (.c (.v (.int .i64 5)))])) [10, 8]), (.mk (.mk (some 17) none (.m (.pu (.bin false .add (.c (.v (.int .i64 1))) (.t 16))))) [11]), (.mk (.mk (some 18) none (.m (.pu (.mv (.t 0))))) []), (.mk (.mk (some 19) none (.call 25 [(.t 18), (.c (.v (.int .i64 3)))])) [13, 11]), (.mk (.mk (some 20) none (.m (.pu (.mv (.t 0))))) []), (.mk (.mk (some 21) none (.call 25 [(.t 20), (.c (.v (.int .i64 2)))])) [15, 14]), (.mk (.mk (some 22) none (.m (.pu (.bd [(.v (.int .i64 0)), (.v (.int .i64 0)), (.v (.int .i64 0)), (.v (.int .i64 0)), (.v (.int .i64 0))] [(0, 1, (.t 9)), (1, 1, (.t 14)), (2, 1, (.t 17)), (3, 1, (.t 19)), (4, 1, (.t 21))])))) [4, 9, 12, 14, 16]), (.mk (.mk none none (.m (.st 5 (.t 4) (.t 22)))) [17, 16, 0, 1, 2, 3, 4, 5, 6, 7, 8, 9, 10, 11, 12, 13, 14, 15, 16, 17])]
/-- cipherplan/cipherplanmove.Decision -/
def tc_move_Decision : TC := (.sq (.reg [(.mk (some 3) none (.m (.box (.t 1)))), (.mk (some 4) none (.m (.new [(.v (.int .i64 0)), (.v (.int .i64 0)), (.v (.int .i64 0)), (.v (.int .i64 0)), (.v (.int .i64 0))])))]) (.sq (.dr dr_move_Decision_0 [(0, [3]), (1, [3]), (2, [50000]), (3, [8, 5008, 10008, 15008, 50000]), (4, []), (5, [3]), (6, [3]), (7, [50000]), (8, [13, 5013, 10013, 15013, 50000]), (9, []), (10, [50000]), (11, [16, 5016, 10016, 15016, 50000]), (12, []), (13, [50000]), (14, [19, 5019, 10019, 15019, 50000]), (15, [50000]), (16, [21, 5021, 10021, 15021, 50000]), (17, []), (18, [4])] (.of [0, 1, 2, 5, 6, 7, 10, 13, 15, 3, 4, 8, 9, 11, 12, 14, 16, 17, 18])) .rt))
def rv_move_Decision : List (RV × Option Ty) := [((.c 4 true 5), some tyDecision)]
def g_move_Decision : G := ⟨TYs, [], 23, EL [(25, sp_make_Dice_Next)], keeps, (fun _ _ => none)⟩
def r_move_Decision (d0 : Dice) (p1 : Decision) : Option (V × List VO) :=
  br ((nextOk d0 3))
    (br ((nextOk (dnext d0 3) 2))
      (br ((nextOk (dnext (dnext d0 3) 2) 5))
        (br ((nextOk (dnext (dnext (dnext d0 3) 2) 5) 3))
          (br ((nextOk (dnext (dnext (dnext (dnext d0 3) 2) 5) 3) 2))
            (some (.t tyDecision ((iadd .i64 p1.1 (dval d0 3)), ((iadd .i64 p1.2.1 (dval (dnext d0 3) 2)), ((iadd .i64 1 (dval (dnext (dnext d0 3) 2) 5)), ((dval (dnext (dnext (dnext d0 3) 2) 5) 3), ((dval (dnext (dnext (dnext (dnext d0 3) 2) 5) 3) 2), ()))))), [.box (.t tyDice (dnext (dnext (dnext (dnext (dnext d0 3) 2) 5) 3) 2))]))
            (none))
          (none))
        (none))
      (none))
    (none)
theorem e_move_Decision (d0 : Dice) (p1 : Decision) : runF g_move_Decision tc_move_Decision rv_move_Decision false [.ptr 50000 0, .t tyDecision p1] [.box (.t tyDice d0)] = r_move_Decision d0 p1 := by kernel_rfl
theorem ok_move_Decision : Option.map (trC Try.prog) Try.f29.body = some tc_move_Decision.er := by kernel_rfl
theorem rok_move_Decision : trVs Try.prog Try.f29.results.toList = some (rv_move_Decision.map Prod.fst) := by kernel_rfl
theorem en_move_Decision : Entered Try.prog 29 := .inr ⟨by decide, _, Try.func29, by kernel_rfl, by kernel_rfl⟩
theorem gk_move_Decision : GOk Try.prog g_move_Decision := gok_of _ (by
  intro p hp
  simp only [List.mem_cons, List.not_mem_nil, or_false] at hp
  rcases hp with rfl
  · exact ⟨en_make_Dice_Next, ms_make_Dice_Next⟩)
theorem lk_move_Decision : tc_move_Decision.lok g_move_Decision := by repeat (first | exact trivial | refine ⟨?_, ?_⟩)
theorem nOk {d : Dice} (h : dOk d = true) {n : Int} (hn : n < 4611686018427387904) : nextOk d n = true := by
  simp only [nextOk, h, Bool.true_and, decide_eq_true_eq]
  exact hn
theorem s_move_Decision (d : Dice) (a : Decision) (h : decOk d a = true) : r_move_Decision d a = some (.t tyDecision (decV d a), [.box (.t tyDice (decN d a))]) := by
  simp only [decOk, Bool.and_eq_true, decide_eq_true_eq] at h
  obtain ⟨h0, h1, h2, h3, h4⟩ := h
  have k1 := dOk_next (n := 3) h0
  have k2 := dOk_next (n := 2) k1
  have k3 := dOk_next (n := 5) k2
  have k4 := dOk_next (n := 3) k3
  have v1 := dval_lt (d := d) (n := 3) (by omega)
  have v2 := dval_lt (d := dnext d 3) (n := 2) (by omega)
  have v3 := dval_lt (d := dnext (dnext d 3) 2) (n := 5) (by omega)
  simp only [r_move_Decision, nOk h0 (n := 3) (by omega), nOk k1 (n := 2) (by omega), nOk k2 (n := 5) (by omega), nOk k3 (n := 3) (by omega), nOk k4 (n := 2) (by omega), br_true]
  rw [iadd_in (by omega), iadd_in (by omega), iadd_in (by omega)]
  rfl
def sp_move_Decision : Ent := specP tyDice (.pr tyDecision .nil) (fun d x => (decOk d x.1)) (fun d x => (.t tyDecision (decV d x.1))) (fun d x => (decN d x.1))
theorem ms_move_Decision : Meets Try.prog 29 (strip sp_move_Decision) := by
  obtain ⟨c, hc, hi⟩ := Option.map_eq_some_iff.1 ok_move_Decision
  exact meets_specP (R := runF g_move_Decision tc_move_Decision rv_move_Decision false) (meets_of (by decide) Try.func29 hc hi Try.ntmps29 rok_move_Decision gk_move_Decision lk_move_Decision mixed) rfl fun d x hok => (e_move_Decision d x.1).trans (s_move_Decision d x.1 hok)
end
end Go.Proofs.Ytnimpcffagidoaa.K
