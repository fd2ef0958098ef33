/-
 Printing as a word: the answer's and the program's.
-/
import Derived.Test.YtkkoedniahnneaaDoorA25
set_option linter.unusedSimpArgs false
set_option linter.unusedVariables false
namespace Go.Proofs.YtkkoedniahnneaaDoor.K
open Go.RowKit
noncomputable section
-- loop 0: (x0 : (List Setting)) (x4 : Int); out: ('ret',) (x2 : ByteArray) (x3 : Int); ('exit', 0) (x0 : (List Setting))
-- loop 1: (x0 : (List Setting)) (x5 : Int); out: ('ret',) (x2 : ByteArray) (x3 : Int); ('exit', 2) (x0 : (List Setting))
-- loop 2: (x0 : (List Setting)) (x6 : ByteArray) (x7 : ByteArray) (x8 : Int); out: ('ret',) (x2 : ByteArray) (x3 : Int); ('exit', 4) (x6 : ByteArray)
end
end Go.Proofs.YtkkoedniahnneaaDoor.K
