/-
 The last setting of a kind, and a list in which a setting has a value: plain facts.
-/
import Derived.Test.YtkkoedniahnneaaDoorA24
set_option linter.unusedSimpArgs false
set_option linter.unusedVariables false
namespace Go.Proofs.YtkkoedniahnneaaDoor.K
open Go.RowKit
noncomputable section
end
end Go.Proofs.YtkkoedniahnneaaDoor.K
