/-
  verdict.Dead.
-/
import Derived.Test.YtfehjdaielifiaaV9
import Derived.Test.YtfehjdaielifiaaB2
set_option linter.unusedSimpArgs false
set_option linter.unusedVariables false
namespace Go.Proofs.Ytfehjdaielifiaa.K
open Go.RowKit
/-! what is cut from free days -/
/-! the rules from the last one on -/
end Go.Proofs.Ytfehjdaielifiaa.K
