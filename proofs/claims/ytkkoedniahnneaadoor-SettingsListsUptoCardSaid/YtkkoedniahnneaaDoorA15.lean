/-
 slices.Backward at settings.
-/
import Derived.Test.YtkkoedniahnneaaDoorA14
import Derived.RangeFuncCalls
import Derived.RangeFuncBound
import Derived.Shelf.RegionOpen
import Derived.OwnWalkIn
import Derived.TacticsInMore
import Derived.LoopNIn
import Derived.LoopIn
set_option linter.unusedSimpArgs false
set_option linter.unusedVariables false
namespace Go.Proofs.YtkkoedniahnneaaDoor.K
open Go.RowKit Go.Shelf
attribute [local go_sem] Oper.semAt_some
end Go.Proofs.YtkkoedniahnneaaDoor.K
