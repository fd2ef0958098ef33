import Derived.Test.YtkngeegkjhipeaaGreatN23
set_option linter.unusedSimpArgs false
set_option linter.unusedVariables false
namespace Go.Proofs.YtkngeegkjhipeaaGreat.K
open Go.RowKit
noncomputable section
def rowC (s : Qad) (o : List Int) (v : Int) (k : Nat) : List Keep := ((List.range' k (17 - k)).filter fun (j : Nat) => posE s o v (j : Int)).map fun (j : Nat) => (v, ((j : Int), ()))
def verC (s : Qad) (o : List Int) (v n : Nat) : List Keep := (List.range' v n).flatMap fun (j : Nat) => rowC s o (j : Int) 1
abbrev hiC (c s : Qad) : Int := imn c.2.2.1 s.2.2.1
abbrev loC (c s : Qad) : Int := imx c.2.1 s.2.1
def Qby (c s : Qad) : List Keep := bif !Qcx c s then [] else verC s (Qao c) (loC c s).toNat (hiC c s + 1 - loC c s).toNat
-- loop 0: (x6 : Int) (x7 : Int) (y2 : Qad) (y3 : Qad) (y5 : (List Keep)); out: ('exit', 2) (x6 : Int) (y2 : Qad) (y3 : Qad) (y5 : (List Keep))
-- loop 1: (x6 : Int) (y2 : Qad) (y3 : Qad) (y5 : (List Keep)); out: ('exit', 0) (y5 : (List Keep))
end
end Go.Proofs.YtkngeegkjhipeaaGreat.K
