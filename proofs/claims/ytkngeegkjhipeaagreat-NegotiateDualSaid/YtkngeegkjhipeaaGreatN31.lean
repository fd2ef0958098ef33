import Derived.Test.YtkngeegkjhipeaaGreatN30
set_option linter.unusedSimpArgs false
set_option linter.unusedVariables false
namespace Go.Proofs.YtkngeegkjhipeaaGreat.K
open Go.RowKit
noncomputable section
def endSm (e : Qad) : Bool := decide (e.1.size ≤ 1000 ∧ (Qao e).length ≤ 1000 ∧ (eIds e).length ≤ 1000 ∧ (eAnch e).length ≤ 1000 ∧ (eHash e).length ≤ 1000) && (eIds e).all idLen
end
end Go.Proofs.YtkngeegkjhipeaaGreat.K
