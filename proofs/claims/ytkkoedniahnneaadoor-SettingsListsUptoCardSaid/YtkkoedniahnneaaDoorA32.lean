/-
 SettingsBack: what was printed says the same when it is read.
-/
import Derived.Test.YtkkoedniahnneaaDoorA31
set_option linter.unusedSimpArgs false
set_option linter.unusedVariables false
namespace Go.Proofs.YtkkoedniahnneaaDoor.K
open Go.RowKit
noncomputable section
theorem sm_sz {l : List Setting} (h : l.all smO = true) : l.all szOk = true := by
 rw [List.all_eq_true] at h ⊢
 intro x hx
 have := of_decide_eq_true (h x hx)
 exact decide_eq_true (by omega)
-- loop 0: (x1 : ByteArray) (x6 : (List Setting)) (x9 : (List Setting)) (x12 : Int); out: ('ret',) (x4 : Bool); ('exit', 0) (x1 : ByteArray)
end
end Go.Proofs.YtkkoedniahnneaaDoor.K
