/-
  The answer of verdict: Keep.
-/
import Derived.Test.YtfehjdaielifiaaV11
import Derived.Test.YtfehjdaielifiaaV3
set_option linter.unusedSimpArgs false
set_option linter.unusedVariables false
namespace Go.Proofs.Ytfehjdaielifiaa.K
open Go.RowKit
/-! Keep -/
end Go.Proofs.Ytfehjdaielifiaa.K
