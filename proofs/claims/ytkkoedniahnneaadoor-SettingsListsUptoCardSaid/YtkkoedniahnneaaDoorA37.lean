/-
 SettingsSet: behind Set, Get returns the value, and no other setting is changed.
-/
import Derived.Test.YtkkoedniahnneaaDoorA36
import Derived.Test.YtkkoedniahnneaaDoorA31
set_option linter.unusedSimpArgs false
set_option linter.unusedVariables false
namespace Go.Proofs.YtkkoedniahnneaaDoor.K
open Go.RowKit
noncomputable section
-- loop 0: (x4 : (List Setting)) (x5 : ByteArray) (x6 : ByteArray) (x8 : (List Setting)) (x12 : Int); out: ('ret',) (x2 : Bool); ('exit', 0)
end
end Go.Proofs.YtkkoedniahnneaaDoor.K
