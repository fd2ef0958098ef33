import Derived.Test.YtkngeegkjhipeaaGreatN35
set_option linter.unusedSimpArgs false
set_option linter.unusedVariables false
namespace Go.Proofs.YtkngeegkjhipeaaGreat.K
open Go.RowKit
noncomputable section
-- loop 0: (x10 : (List Keep)) (x15 : (List Int)) (x16 : Bool) (x17 : Int) (y8 : Keep); out: ('ret',) (x4 : Bool); ('exit', 0) (x16 : Bool)
attribute [local irreducible] prV prN oddV oddN Qbl withF suiV suiN
end
end Go.Proofs.YtkngeegkjhipeaaGreat.K
