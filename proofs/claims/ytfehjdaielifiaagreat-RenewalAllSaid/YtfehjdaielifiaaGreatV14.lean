/-
 awake; facts for the laws.
-/
import Derived.Test.YtfehjdaielifiaaGreatV12
import Derived.Test.YtfehjdaielifiaaGreatM2
set_option linter.unusedSimpArgs false
set_option linter.unusedVariables false
namespace Go.Proofs.YtfehjdaielifiaaGreat.K
open Go.RowKit
theorem not_light {l : List Int} (h : (!light l) = false) : dOk (roll l) = true := dOk_roll (by simpa using h)
end Go.Proofs.YtfehjdaielifiaaGreat.K
