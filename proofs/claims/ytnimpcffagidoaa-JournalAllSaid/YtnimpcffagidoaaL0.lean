/-
 Decisions that are made.
-/
import Derived.Test.YtnimpcffagidoaaKL
import Derived.KernelRfl
set_option linter.unusedSimpArgs false
set_option linter.unusedVariables false
namespace Go.Proofs.Ytnimpcffagidoaa.K
open Go.RowKit
noncomputable section
def adv (d : Dice) : Dice := dnext d 0
def decV (d : Dice) (a : Decision) : Decision :=
 (a.1 + dval d 3, a.2.1 + dval (adv d) 2, 1 + dval (adv (adv d)) 5, dval (adv (adv (adv d))) 3, dval (adv (adv (adv (adv d)))) 2, ())
def decN (d : Dice) (_a : Decision) : Dice := adv (adv (adv (adv (adv d))))
def decOk (d : Dice) (a : Decision) : Bool := dOk d && decide (0 ≤ a.1 ∧ a.1 ≤ 1000000 ∧ 0 ≤ a.2.1 ∧ a.2.1 ≤ 1000000)
def dr_f29_0 : List DO := [(.mk (oP 5 (.fa 0 (.t 3))) []), (.mk (oL 6 5) [0]), (.mk (oV 7 0) []), (.mk (oC 8 25 [(.t 7), (cI 3)]) [2]), (.mk (oP 9 (.bin false .add (.t 6) (.t 8))) [1, 3]), (.mk (oP 10 (.fa 1 (.t 3))) []), (.mk (oL 11 10) [5]), (.mk (oV 12 0) []), (.mk (oC 13 25 [(.t 12), (cI 2)]) [7, 3]), (.mk (oP 14 (.bin false .add (.t 11) (.t 13))) [6, 8]), (.mk (oV 15 0) []), (.mk (oC 16 25 [(.t 15), (cI 5)]) [10, 8]), (.mk (oP 17 (.bin false .add (cI 1) (.t 16))) [11]), (.mk (oV 18 0) []), (.mk (oC 19 25 [(.t 18), (cI 3)]) [13, 11]), (.mk (oV 20 0) []), (.mk (oC 21 25 [(.t 20), (cI 2)]) [15, 14]), (.mk (oP 22 (.bd [(.v (.int .i64 0)), (.v (.int .i64 0)), (.v (.int .i64 0)), (.v (.int .i64 0)), (.v (.int .i64 0))] [(0, 1, (.t 9)), (1, 1, (.t 14)), (2, 1, (.t 17)), (3, 1, (.t 19)), (4, 1, (.t 21))])) [4, 9, 12, 14, 16]), (.mk (.mk none none (.m (.st 5 (.t 4) (.t 22)))) [17, 16, 0, 1, 2, 3, 4, 5, 6, 7, 8, 9, 10, 11, 12, 13, 14, 15, 16, 17])]
def tc_f29 : TC := (.sq (.reg [(oM 3 (.box (.t 1))), (oM 4 (.new [(.v (.int .i64 0)), (.v (.int .i64 0)), (.v (.int .i64 0)), (.v (.int .i64 0)), (.v (.int .i64 0))]))]) (.sq (.dr dr_f29_0 [(0, [3]), (1, [3]), (2, [50000]), (3, [8, 5008, 10008, 15008, 50000]), (4, []), (5, [3]), (6, [3]), (7, [50000]), (8, [13, 5013, 10013, 15013, 50000]), (9, []), (10, [50000]), (11, [16, 5016, 10016, 15016, 50000]), (12, []), (13, [50000]), (14, [19, 5019, 10019, 15019, 50000]), (15, [50000]), (16, [21, 5021, 10021, 15021, 50000]), (17, []), (18, [4])] (.of [0, 1, 2, 5, 6, 7, 10, 13, 15, 3, 4, 8, 9, 11, 12, 14, 16, 17, 18])) .rt))
def rv_f29 : List (RV × Option Ty) := [((.c 4 true 5), some tyDecision)]
def g_f29 : G := ⟨TYs, [], 23, EL [(25, sp_f25)], keeps, (fun _ _ => none), IL [], RL []⟩
def r_f29 (d0 : Dice) (p1 : Decision) : Option (V × List VO) :=
 br ((nextOk d0 3))
  (br ((nextOk (dnext d0 3) 2))
   (br ((nextOk (dnext (dnext d0 3) 2) 5))
    (br ((nextOk (dnext (dnext (dnext d0 3) 2) 5) 3))
     (br ((nextOk (dnext (dnext (dnext (dnext d0 3) 2) 5) 3) 2))
      (some (.t tyDecision ((iadd .i64 p1.1 (dval d0 3)), ((iadd .i64 p1.2.1 (dval (dnext d0 3) 2)), ((iadd .i64 1 (dval (dnext (dnext d0 3) 2) 5)), ((dval (dnext (dnext (dnext d0 3) 2) 5) 3), ((dval (dnext (dnext (dnext (dnext d0 3) 2) 5) 3) 2), ()))))), [.box (.t tyDice (dnext (dnext (dnext (dnext (dnext d0 3) 2) 5) 3) 2))]))
      (none))
     (none))
    (none))
   (none))
  (none)
theorem e_f29 (d0 : Dice) (p1 : Decision) : runF g_f29 tc_f29 rv_f29 false [.ptr 50000 0, .t tyDecision p1] [.box (.t tyDice d0)] = r_f29 d0 p1 := by kernel_rfl
theorem ok_f29 : Option.map (trC Try.prog) Try.f29.body = some tc_f29.er := by kernel_rfl
theorem rok_f29 : trVs Try.prog Try.f29.results.toList = some (rv_f29.map Prod.fst) := by kernel_rfl
theorem en_f29 : Entered Try.prog 29 := .inr ⟨by decide, _, Try.func29, by kernel_rfl, by kernel_rfl⟩
theorem gk_f29 : GOk Try.prog g_f29 := gok_of _ (by
 intro p hp
 simp only [List.mem_cons, List.not_mem_nil, or_false] at hp
 rcases hp with rfl
 ·exact ⟨en_f25, ms_f25⟩)
theorem lk_f29 : tc_f29.lok g_f29 := by repeat (first | exact trivial | refine ⟨?_, ?_⟩)
theorem nOk {d : Dice} (h : dOk d = true) {n : Int} (hn : n < 4611686018427387904) : nextOk d n = true := by
 simp only [nextOk, h, Bool.true_and, decide_eq_true_eq]
 exact hn
theorem s_f29 (d : Dice) (a : Decision) (h : decOk d a = true) : r_f29 d a = some (.t tyDecision (decV d a), [.box (.t tyDice (decN d a))]) := by
 simp only [decOk, Bool.and_eq_true, decide_eq_true_eq] at h
 obtain ⟨h0, h1, h2, h3, h4⟩ := h
 have k1 := dOk_next (n := 3) h0
 have k2 := dOk_next (n := 2) k1
 have k3 := dOk_next (n := 5) k2
 have k4 := dOk_next (n := 3) k3
 have v1 := dval_lt (d := d) (n := 3) (by omega)
 have v2 := dval_lt (d := dnext d 3) (n := 2) (by omega)
 have v3 := dval_lt (d := dnext (dnext d 3) 2) (n := 5) (by omega)
 simp only [r_f29, nOk h0 (n := 3) (by omega), nOk k1 (n := 2) (by omega), nOk k2 (n := 5) (by omega), nOk k3 (n := 3) (by omega), nOk k4 (n := 2) (by omega), br_true]
 rw [iadd_in (by omega), iadd_in (by omega), iadd_in (by omega)]
 rfl
def sp_f29 : Ent := specP tyDice (.pr tyDecision .nil) (fun d x => (decOk d x.1)) (fun d x => (.t tyDecision (decV d x.1))) (fun d x => (decN d x.1))
theorem ms_f29 : Meets Try.prog 29 (strip sp_f29) := by
 obtain ⟨c, hc, hi⟩ := Option.map_eq_some_iff.1 ok_f29
 exact meets_specP (R := runF g_f29 tc_f29 rv_f29 false) (meets_of (by decide) Try.func29 hc hi Try.ntmps29 rok_f29 gk_f29 lk_f29 mixed) rfl fun d x hok => (e_f29 d x.1).trans (s_f29 d x.1 hok)
end
end Go.Proofs.Ytnimpcffagidoaa.K
