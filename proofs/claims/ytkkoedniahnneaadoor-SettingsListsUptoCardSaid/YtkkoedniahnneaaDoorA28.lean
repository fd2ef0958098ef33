/-
 SettingsLong: where the limits of texts are.
-/
import Derived.Test.YtkkoedniahnneaaDoorA29
set_option linter.unusedSimpArgs false
set_option linter.unusedVariables false
namespace Go.Proofs.YtkkoedniahnneaaDoor.K
open Go.RowKit
noncomputable section
-- loop 0: (x0 : Int) (x1 : Int) (x5 : ByteArray) (x7 : Int) (x8 : ByteArray) (x9 : Int) (y6 : (List Setting)); out: ('exit', 2) (x0 : Int) (x1 : Int) (x5 : ByteArray) (x7 : Int) (x8 : ByteArray) (y6 : (List Setting))
-- loop 1: (x0 : Int) (x1 : Int) (x5 : ByteArray) (x7 : Int) (y6 : (List Setting)); out: ('exit', 0) (x5 : ByteArray) (y6 : (List Setting))
end
end Go.Proofs.YtkkoedniahnneaaDoor.K
