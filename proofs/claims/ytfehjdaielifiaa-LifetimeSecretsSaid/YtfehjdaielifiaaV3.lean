/-
  verdict.Keep.
-/
import Derived.Test.YtfehjdaielifiaaV1
import Derived.Test.YtfehjdaielifiaaB3
set_option linter.unusedSimpArgs false
set_option linter.unusedVariables false
namespace Go.Proofs.Ytfehjdaielifiaa.K
open Go.RowKit
-- loop 0: (y60000 : Int) (y60001_0 : Int); out: ('ret',) (y60000 : Int) (y60001_0 : Int); ('normal',) (y60000 : Int) (y60001_0 : Int)
end Go.Proofs.Ytfehjdaielifiaa.K
