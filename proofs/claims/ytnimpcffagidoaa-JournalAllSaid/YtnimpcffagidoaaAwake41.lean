/-
 The sanity check of the ledger's laws.
-/
import Derived.Test.YtnimpcffagidoaaLatest
import Derived.Test.YtnimpcffagidoaaAdd
namespace Go.Proofs.Ytnimpcffagidoaa
open Go.RowKit
set_option linter.unusedSimpArgs false
set_option linter.unusedVariables false
end Go.Proofs.Ytnimpcffagidoaa
