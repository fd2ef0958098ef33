/-
 The answer of verdict: Keep.
-/
import Derived.Test.YtfehjdaielifiaaGreatV11
import Derived.Test.YtfehjdaielifiaaGreatV3
set_option linter.unusedSimpArgs false
set_option linter.unusedVariables false
namespace Go.Proofs.YtfehjdaielifiaaGreat.K
open Go.RowKit
-- loop 0: (x1 : Int) (x5 : Int) (y2 : Policy); out: ('ret',) (x4 : Int); ('exit', 0)
end Go.Proofs.YtfehjdaielifiaaGreat.K
