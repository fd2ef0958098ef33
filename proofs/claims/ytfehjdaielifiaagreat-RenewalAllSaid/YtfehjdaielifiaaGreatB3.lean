/-
 slices.Backward at Keep.
-/
import Derived.Test.YtfehjdaielifiaaGreatB2
set_option linter.unusedSimpArgs false
set_option linter.unusedVariables false
namespace Go.Proofs.YtfehjdaielifiaaGreat.K
open Go.RowKit Go.Shelf
attribute [local go_sem] Oper.semAt_some
end Go.Proofs.YtfehjdaielifiaaGreat.K
