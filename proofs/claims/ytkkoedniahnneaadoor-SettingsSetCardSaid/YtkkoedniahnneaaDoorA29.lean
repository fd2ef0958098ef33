/-
 Get, Sections and Set as words: the answer's; Sections of the program.
-/
import Derived.Test.YtkkoedniahnneaaDoorA27
import Derived.Test.YtkkoedniahnneaaDoorA26
import Derived.Test.YtkkoedniahnneaaDoorKX
set_option linter.unusedSimpArgs false
set_option linter.unusedVariables false
namespace Go.Proofs.YtkkoedniahnneaaDoor.K
open Go.RowKit
noncomputable section
def cP (p : Prop) : Bool := @decide p (Classical.propDecidable _)
theorem cP_of {p : Prop} (h : cP p = true) : p := @of_decide_eq_true _ (Classical.propDecidable _) h
theorem cP_in {p : Prop} (h : p) : cP p = true := @decide_eq_true _ (Classical.propDecidable _) h
-- loop 0: (x0 : (List Setting)) (x1 : ByteArray) (x2 : ByteArray) (x8 : Int); out: ('ret',) (x6 : ByteArray) (x7 : Bool); ('exit', 0)
-- loop 0: (x0 : (List Setting)) (x4 : Int) (x5 : Bool) (x6 : Int) (y3 : (List ByteArray)); out: ('exit', 2) (x0 : (List Setting)) (x4 : Int) (x5 : Bool) (y3 : (List ByteArray))
-- loop 1: (x0 : (List Setting)) (x4 : Int) (y3 : (List ByteArray)); out: ('exit', 0) (y3 : (List ByteArray))
end
end Go.Proofs.YtkkoedniahnneaaDoor.K
