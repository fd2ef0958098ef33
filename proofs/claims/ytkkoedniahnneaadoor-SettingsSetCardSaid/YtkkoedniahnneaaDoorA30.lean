/-
 Sections of the program; Set of the answer.
-/
import Derived.Test.YtkkoedniahnneaaDoorA29
set_option linter.unusedSimpArgs false
set_option linter.unusedVariables false
namespace Go.Proofs.YtkkoedniahnneaaDoor.K
open Go.RowKit
noncomputable section
-- loop 0: (x6 : (List Setting)) (x7 : Int) (x8 : Int) (y3 : (List ByteArray)); out: ('exit', 0) (y3 : (List ByteArray))
-- loop 0: (x0 : (List Setting)) (x1 : ByteArray) (x2 : ByteArray) (x3 : ByteArray) (x12 : Int) (x13 : Int) (y10 : Setting) (y24 : (List Setting)); out: ('exit', 0) (x0 : (List Setting)) (x1 : ByteArray) (x12 : Int) (y10 : Setting) (y24 : (List Setting))
-- loop 1: (x0 : (List Setting)) (x12 : Int) (x14 : Int) (y24 : (List Setting)); out: ('exit', 2) (y24 : (List Setting))
-- loop 2: (x0 : (List Setting)) (x1 : ByteArray) (x15 : Int) (x16 : Int) (y10 : Setting); out: ('exit', 4) (x0 : (List Setting)) (x15 : Int) (y10 : Setting)
end
end Go.Proofs.YtkkoedniahnneaaDoor.K
