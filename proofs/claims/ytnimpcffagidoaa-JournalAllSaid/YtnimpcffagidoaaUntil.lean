/-
 until of the program: the decisions up to a day, found by a binary search.
-/
import Derived.Test.YtnimpcffagidoaaMoveLedger2
import Derived.Deep.QuietTactic
import Derived.BigQuiet
namespace Go.Proofs.Ytnimpcffagidoaa
open Go.RowKit
set_option linter.unusedSimpArgs false
set_option linter.unusedVariables false
theorem led_slice' {w : World} {sv : Value} {ds : List Dec} (h : Led w sv ds) : ∃ A c, sv = .slice A ds.length c ∧ ds.length ≤ c ∧ c ≤ maxLen := by
 obtain ⟨_, A, c, h1, h2, h3, _⟩ := h
 exact ⟨A, c, h1, h2, h3⟩
end Go.Proofs.Ytnimpcffagidoaa
