/-
 Plain laws on ledgers (for the texts in types).
-/
import Derived.Test.YtnimpcffagidoaaAwake41
import Derived.Test.YtnimpcffagidoaaSame
namespace Go.Proofs.Ytnimpcffagidoaa
open Go.RowKit
set_option linter.unusedSimpArgs false
set_option linter.unusedVariables false
end Go.Proofs.Ytnimpcffagidoaa
