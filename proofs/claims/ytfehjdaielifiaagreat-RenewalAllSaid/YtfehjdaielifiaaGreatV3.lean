/-
 verdict.Keep.
-/
import Derived.Test.YtfehjdaielifiaaGreatV1
import Derived.Test.YtfehjdaielifiaaGreatB3
set_option linter.unusedSimpArgs false
set_option linter.unusedVariables false
namespace Go.Proofs.YtfehjdaielifiaaGreat.K
open Go.RowKit
-- loop 0: (y60000 : Int) (y60001_0 : Int); out: ('ret',) (y60000 : Int) (y60001_0 : Int); ('normal',) (y60000 : Int) (y60001_0 : Int)
end Go.Proofs.YtfehjdaielifiaaGreat.K
