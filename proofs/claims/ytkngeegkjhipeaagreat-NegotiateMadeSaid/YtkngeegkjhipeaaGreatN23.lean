import Derived.Test.YtkngeegkjhipeaaGreatN22
set_option linter.unusedSimpArgs false
set_option linter.unusedVariables false
namespace Go.Proofs.YtkngeegkjhipeaaGreat.K
open Go.RowKit
noncomputable section
-- loop 0: (x4 : Int) (y1_0 : ByteArray) (y1_1 : Int) (y1_2 : Int) (y1_4 : Bool) (y1_5 : (List Qaq)) (y1_8 : Bool) (y2 : Qad) (y3 : (List Qaq)) (y6 : (List Int)) (y11 : (List Int)) (y16 : (List Int)); out: ('exit', 0) (y1_0 : ByteArray) (y1_1 : Int) (y1_2 : Int) (y1_4 : Bool) (y1_5 : (List Qaq)) (y1_8 : Bool) (y2 : Qad) (y3 : (List Qaq)) (y6 : (List Int)) (y11 : (List Int)) (y16 : (List Int))
-- loop 0: (x0 : (List Int)) (x1 : Int) (x2 : Int) (x7 : Int); out: ('ret',) (x6 : Bool); ('exit', 0)
end
end Go.Proofs.YtkngeegkjhipeaaGreat.K
