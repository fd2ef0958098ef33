/-
 The dice of the statements: numbers out of a list, one after the other.
-/
import Derived.Test.YtnimpcffagidoaaRows
import Derived.Test.YtnimpcffagidoaaKA
import Derived.Deep.RegionHeld3
import Derived.Deep.DrawnRows
import Derived.Deep.RegionWith
import Derived.BigQuiet
namespace Go.Proofs.Ytnimpcffagidoaa
open Go.RowKit
set_option linter.unusedSimpArgs false
set_option linter.unusedVariables false
attribute [local go_sem ↓] Go.wp_at_zero Go.wp_at_succ
def DiceOk (B : Nat) (w : World) (g : Nat) : Prop :=
 g < B ∧ B ≤ w.heap.size ∧ ∃ (A : Option Addr) (len cap p : Nat) (zs : List Int), Blk w g 79 #[.slice A len cap, .int .i64 p] ∧ p ≤ len ∧ len ≤ 400 ∧ len ≤ zs.length ∧
  ∀ i, i < len → ∃ b off, A = some ⟨b, off, none⟩ ∧ b ≠ g ∧ b < B ∧ w.cell? ⟨b, off + i, none⟩ = some (.int .i64 (zs.getD i 0))
end Go.Proofs.Ytnimpcffagidoaa
