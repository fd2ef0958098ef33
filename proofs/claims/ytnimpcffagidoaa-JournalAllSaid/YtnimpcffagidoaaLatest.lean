/-
 Latest of the program.
-/
import Derived.Test.YtnimpcffagidoaaBackward
namespace Go.Proofs.Ytnimpcffagidoaa
open Go.RowKit Go.Shelf
attribute [local go_sem] Oper.semAt_some
end Go.Proofs.Ytnimpcffagidoaa
