/-
  awake; facts for the laws.
-/
import Derived.Test.YtfehjdaielifiaaGreatV12
import Derived.Test.YtfehjdaielifiaaGreatM2
set_option linter.unusedSimpArgs false
set_option linter.unusedVariables false
namespace Go.Proofs.YtfehjdaielifiaaGreat.K
open Go.RowKit
/-! awake -/
def awakeT : Bool := true
def awP : Policy := ([(false, (1, (0, (0, (0, (40001, ())))))), (true, (1, (0, (0, (0, (9, ()))))))], (([] : List Keep), ()))
theorem aw_spans : spansF awP (1, (0, ())) 1 = [(0, (9, ()))] := by
  unfold spansF
  rw [cuts_eq]
  rfl
theorem aw_early : earlyF awP (1, (0, ())) 1 0 = 0 := rfl
/-! facts for the laws -/
theorem ieq_self (a : Int) : ieq a a = true := by simp [ieq]
theorem beqq_self (a : Bool) : beqq a a = true := by cases a <;> rfl
theorem same_self (l : List Keep) : same l l = true := by simp [same]
theorem not_light {l : List Int} (h : (!light l) = false) : dOk (roll l) = true := dOk_roll (by simpa using h)
theorem nextOkI {d : Dice} {n : Int} (h : dOk d = true) (hn : decide (n < 4611686018427387904) = true) : nextOk d n = true := by unfold nextOk; rw [h, hn]; rfl
theorem oneOkI {d : Dice} {n : Int} (h : dOk d = true) (hn : decide (n < 4611686018427387904) = true) (h0 : decide (0 ≤ n) = true) : oneOk d n = true := by unfold oneOk; rw [nextOkI h hn, h0]; rfl
theorem ofOkI {d : Dice} {l : List Int} (h : dOk d = true) (hl : decide (0 < l.length ∧ l.length < 4611686018427387904) = true) : ofOk d l = true := by unfold ofOk; rw [h, hl]; rfl
theorem spans_ok {y : Policy} {u : Keep} {p : Int} {b : List Keep} (h : polLen y = true) : sameOk0 (SpansF y u p).1 b = true := by
  have := spans_len y u p
  simp only [polLen, lenOk5, Bool.and_eq_true, decide_eq_true_eq] at h
  unfold sameOk0 SpansF
  rw [decide_eq_true_eq]
  split
  · simp only; omega
  · simp
theorem pol_lenI (d : Dice) : polLen ((polV d).1, ((polV d).2.1, ())) = true := by
  have := pol_size d
  simp only [polLen, lenOk5, Bool.and_eq_true, decide_eq_true_eq]
  omega
theorem pol_lenA (d : Dice) (r : Rule) : polLen ((polV d).1 ++ [r], ((polV d).2.1, ())) = true := by
  have := pol_size d
  simp only [polLen, lenOk5, Bool.and_eq_true, decide_eq_true_eq, List.length_append, List.length_singleton]
  omega
end Go.Proofs.YtfehjdaielifiaaGreat.K
