import Derived.Test.YtkngeegkjhipeaaGreatN34
set_option linter.unusedSimpArgs false
set_option linter.unusedVariables false
namespace Go.Proofs.YtkngeegkjhipeaaGreat.K
open Go.RowKit
noncomputable section
end
end Go.Proofs.YtkngeegkjhipeaaGreat.K
