/-
 Known of the program.
-/
import Derived.Test.YtnimpcffagidoaaThen
namespace Go.Proofs.Ytnimpcffagidoaa
open Go.RowKit
set_option linter.unusedSimpArgs false
set_option linter.unusedVariables false
end Go.Proofs.Ytnimpcffagidoaa
