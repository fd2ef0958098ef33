/-
 verdict.Dead.
-/
import Derived.Test.YtfehjdaielifiaaGreatV9
import Derived.Test.YtfehjdaielifiaaGreatB2
set_option linter.unusedSimpArgs false
set_option linter.unusedVariables false
namespace Go.Proofs.YtfehjdaielifiaaGreat.K
open Go.RowKit
def inK (s : Keep) (d : Int) : Prop := s.1 ≤ d ∧ d < s.2.1
def inL (l : List Keep) (d : Int) : Prop := ∃ s, s ∈ l ∧ inK s d
end Go.Proofs.YtfehjdaielifiaaGreat.K
