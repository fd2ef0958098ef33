/-
 Plain laws on policies that allow more, and on how far an item reaches.
-/
import Derived.Test.YtfehjdaielifiaaGreatP26
set_option linter.unusedSimpArgs false
set_option linter.unusedVariables false
namespace Go.Proofs.YtfehjdaielifiaaGreat.K
open Go.RowKit
end Go.Proofs.YtfehjdaielifiaaGreat.K
