/-
 Equality of ledgers by the reference.
-/
import Derived.Test.YtnimpcffagidoaaDiffer
namespace Go.Proofs.Ytnimpcffagidoaa
open Go.RowKit
set_option linter.unusedSimpArgs false
set_option linter.unusedVariables false
end Go.Proofs.Ytnimpcffagidoaa
