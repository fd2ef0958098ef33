/-
 Which decisions are valid: the program's answer and the reference's are one plain test.
-/
import Derived.Test.YtnimpcffagidoaaRows
import Derived.Test.YtnimpcffagidoaaKA
namespace Go.Proofs.Ytnimpcffagidoaa
open Go.RowKit
set_option linter.unusedSimpArgs false
set_option linter.unusedVariables false
structure Dec where
 day : Int
 known : Int
 kind : Int
 subject : Int
 value : Int
def Dec.val (d : Dec) : Value := .agg #[.int .i64 d.day, .int .i64 d.known, .int .i64 d.kind, .int .i64 d.subject, .int .i64 d.value]
def Dec.cells (d : Dec) : List Value := [.int .i64 d.day, .int .i64 d.known, .int .i64 d.kind, .int .i64 d.subject, .int .i64 d.value]
def validB (d : Dec) : Bool := decide (0 ≤ d.day ∧ d.day ≤ 40000 ∧ 0 ≤ d.known ∧ d.known ≤ 400 ∧ 1 ≤ d.kind ∧ d.kind ≤ 5 ∧ 0 ≤ d.subject ∧ d.subject ≤ 40 ∧ (d.value = 0 ∨ d.value = 1))
set_option maxHeartbeats 800000 in
theorem valid_any (a b c d e : Int) (w : World) :
  Calls Try.prog 58 #[.agg #[.int .i64 a, .int .i64 b, .int .i64 c, .int .i64 d, .int .i64 e]] w fun r w' => r = .returned (.bool (validB ⟨a, b, c, d, e⟩)) ∧ Below w.heap.size w w' := by
 go_enter Try.func58, Try.ntmps58
 go_wp2
 all_goals
  go_ret
  refine ⟨congrArg (fun x => Ending.returned (Value.bool x)) ?_, by go_grown⟩
  rw [Bool.eq_iff_iff]
  simp only [validB, decide_eq_true_eq, beq_iff_eq, Bool.or_eq_true, iff_true, true_iff, false_iff, Bool.false_eq_true]
  omega
set_option maxHeartbeats 800000 in
theorem rvalid_any (a b c d e : Int) (w : World) :
  Calls Try.prog 65 #[.agg #[.int .i64 a, .int .i64 b, .int .i64 c, .int .i64 d, .int .i64 e]] w fun r w' => r = .returned (.bool (validB ⟨a, b, c, d, e⟩)) ∧ Below w.heap.size w w' := by
 go_enter Try.func65, Try.ntmps65
 go_wp2
 all_goals
  go_ret
  refine ⟨congrArg (fun x => Ending.returned (Value.bool x)) ?_, by go_grown⟩
  rw [Bool.eq_iff_iff]
  simp only [validB, decide_eq_true_eq, beq_iff_eq, Bool.or_eq_true, iff_true, true_iff, false_iff, Bool.false_eq_true]
  omega
end Go.Proofs.Ytnimpcffagidoaa
