/-
  The document's answers of 35.
-/
import Derived.Test.YtfehjdaielifiaaGreatP26
set_option linter.unusedSimpArgs false
set_option linter.unusedVariables false
namespace Go.Proofs.YtfehjdaielifiaaGreat.K
open Go.RowKit
noncomputable section
-- loop 0: (x5 : (List Keep)) (x6 : Int) (x7 : Int); out: ('ret',) (x2 : Bool); ('exit', 0) 
-- loop 0: (x2 : Int) (x3 : Int) (x4 : Int) (x13 : Bool) (x14 : Int) (x19 : Int) (x23 : (List Keep)) (x24 : Int) (x25 : Int) (x40 : (List Keep)) (x41 : Int) (x42 : Int) (y5 : Policy) (y10 : Link) (y12 : Link) (y16 : Keep); out: ('exit', 2) (x2 : Int) (x3 : Int) (x4 : Int) (x13 : Bool) (x14 : Int) (x23 : (List Keep)) (x24 : Int) (x25 : Int) (y5 : Policy) (y10 : Link) (y12 : Link)
-- loop 1: (x2 : Int) (x3 : Int) (x4 : Int) (x13 : Bool) (x14 : Int) (x23 : (List Keep)) (x24 : Int) (x25 : Int) (y5 : Policy) (y10 : Link) (y12 : Link); out: ('exit', 0) (x13 : Bool) (y10 : Link) (y12 : Link)
-- loop 0: (x2 : (List Keep)) (x3 : Int) (y4 : Policy) (y5 : Item) (y11 : (List Link)); out: ('ret',) (x8 : (List Link)) (x9 : Int)
end
end Go.Proofs.YtfehjdaielifiaaGreat.K
