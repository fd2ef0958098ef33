/-
 Plain laws on schedules.
-/
import Derived.Test.YtfehjdaielifiaaGreatP27
set_option linter.unusedSimpArgs false
set_option linter.unusedVariables false
namespace Go.Proofs.YtfehjdaielifiaaGreat.K
open Go.RowKit
def LinkOk (y : Policy) (p : Int) (x : Link) : Prop := validF x.1 = true ∧ 0 ≤ x.2.1 ∧ x.2.1 ≤ 40000 ∧ allF y x.1 p x.2.1 = true
structure SchOk (y : Policy) (i : Item) (l : List Link) : Prop where
 fine : fineB y (applyF i l) = true
 holds : ilt (reachF y (applyF i l)) i.2.2.2.2.1 = false
 none : l = [] ↔ ilt (reachF y i) i.2.2.2.2.1 = false
 count : l ≠ [] → ieq i.2.1 1 = false ∧ sgCount (lksF y i) = (i.2.2.2.1.length : Int) ∧ sgCount (lksF y (applyF i l)) = (i.2.2.2.1.length : Int) + (l.length : Int)
 all : ∀ x, x ∈ l → LinkOk y i.2.2.1 x
end Go.Proofs.YtfehjdaielifiaaGreat.K
