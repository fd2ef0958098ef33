/-
 The first difference of two ledgers; equality.
-/
import Derived.Test.YtnimpcffagidoaaMoveLedger2
import Derived.Deep.QuietTactic
import Derived.BigQuiet
namespace Go.Proofs.Ytnimpcffagidoaa
open Go.RowKit
set_option linter.unusedSimpArgs false
set_option linter.unusedVariables false
instance : DecidableEq Dec := fun a b => decidable_of_iff (a.day = b.day ∧ a.known = b.known ∧ a.kind = b.kind ∧ a.subject = b.subject ∧ a.value = b.value) (by cases a; cases b; simp)
end Go.Proofs.Ytnimpcffagidoaa
