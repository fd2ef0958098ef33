/-
 Ledgers that are made; when two are the same.
-/
import Derived.Test.YtnimpcffagidoaaL0
import Derived.KernelRfl
set_option linter.unusedSimpArgs false
set_option linter.unusedVariables false
namespace Go.Proofs.Ytnimpcffagidoaa.K
open Go.RowKit
noncomputable section
def eqDs (a b : List Decision) : Bool := a == b
def eqOk (a b : List Decision) : Bool := decide (a.length ≤ 100000 ∧ b.length ≤ 100000)
-- loop 0: (x0 : (List Decision)) (x1 : (List Decision)) (x12 : Int) (x13 : Int); out: ('ret',) (x4 : Bool); ('exit', 0)
theorem eq_five (a b : Decision) : and (ieq a.1 b.1) (and (ieq a.2.1 b.2.1) (and (ieq a.2.2.1 b.2.2.1) (and (ieq a.2.2.2.1 b.2.2.2.1) (and (ieq a.2.2.2.2.1 b.2.2.2.2.1) true)))) = (a == b) := by
 obtain ⟨a1, a2, a3, a4, a5, _⟩ := a
 obtain ⟨b1, b2, b3, b4, b5, _⟩ := b
 rw [Bool.eq_iff_iff]
 simp [ieq]
def sameV (a b : Ledger) : Bool := a.1 == b.1
def sameOk (a b : Ledger) : Bool := decide (a.1.length ≤ 100000 ∧ b.1.length ≤ 100000)
end
end Go.Proofs.Ytnimpcffagidoaa.K
