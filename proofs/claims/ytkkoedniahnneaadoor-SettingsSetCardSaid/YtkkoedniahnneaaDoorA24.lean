/-
 A printed text, read again: plain facts.
-/
import Derived.Test.YtkkoedniahnneaaDoorA23
set_option linter.unusedSimpArgs false
set_option linter.unusedVariables false
namespace Go.Proofs.YtkkoedniahnneaaDoor.K
open Go.RowKit
noncomputable section
end
end Go.Proofs.YtkkoedniahnneaaDoor.K
