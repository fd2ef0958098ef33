/-
 The text of settings, and what it means when it is read: plain facts.
-/
import Derived.Test.YtkkoedniahnneaaDoorA21
set_option linter.unusedSimpArgs false
set_option linter.unusedVariables false
namespace Go.Proofs.YtkkoedniahnneaaDoor.K
open Go.RowKit
noncomputable section
abbrev eB : ByteArray := ByteArray.mk #[]
end
end Go.Proofs.YtkkoedniahnneaaDoor.K
