/-
 verdict: uses, cut.
-/
import Derived.Test.YtfehjdaielifiaaGreatV8
set_option linter.unusedSimpArgs false
set_option linter.unusedVariables false
namespace Go.Proofs.YtfehjdaielifiaaGreat.K
open Go.RowKit
def polSmall (y : Policy) : Bool := decide (y.1.length ≤ 10000)
theorem polOk_len {y : Policy} (h : polOk y = true) : y.1.length ≤ 60 ∧ y.2.1.length ≤ 60 := by
 simp only [polOk, Bool.and_eq_true, decide_eq_true_eq] at h
 exact h.2
theorem pol_len {y : Policy} (h : polOk y = true) : polLen y = true ∧ polSmall y = true := by
 have := polOk_len h
 simp only [polLen, polSmall, lenOk5, Bool.and_eq_true, decide_eq_true_eq]
 omega
end Go.Proofs.YtfehjdaielifiaaGreat.K
