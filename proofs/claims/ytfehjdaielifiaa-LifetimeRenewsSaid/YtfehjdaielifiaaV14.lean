/-
  awake; facts for the laws.
-/
import Derived.Test.YtfehjdaielifiaaV12
import Derived.Test.YtfehjdaielifiaaM2
set_option linter.unusedSimpArgs false
set_option linter.unusedVariables false
namespace Go.Proofs.Ytfehjdaielifiaa.K
open Go.RowKit
/-! awake -/
/-! facts for the laws -/
theorem ieq_self (a : Int) : ieq a a = true := by simp [ieq]
theorem not_light {l : List Int} (h : (!light l) = false) : dOk (roll l) = true := dOk_roll (by simpa using h)
end Go.Proofs.Ytfehjdaielifiaa.K
