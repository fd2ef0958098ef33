/-
 lifetime: Renew.
-/
import Derived.Test.YtfehjdaielifiaaGreatV21
import Derived.Test.YtfehjdaielifiaaGreatB5
set_option linter.unusedSimpArgs false
set_option linter.unusedVariables false
namespace Go.Proofs.YtfehjdaielifiaaGreat.K
open Go.RowKit
def noItem : Item := (ByteArray.mk #[], (0, (0, (([] : List Link), (0, ())))))
def renE (y : Policy) (i : Item) (u : Keep) (day : Int) : Int := if fineB y i = false then ofE y i else if validF u = false then 7 else if day ≤ lastDay i ∨ 40000 < day then 13 else if i.2.2.2.1.length = 8 then 3 else 0
def moreL (i : Item) (u : Keep) (day : Int) : Item := (i.1, (i.2.1, (i.2.2.1, (i.2.2.2.1 ++ [(u, (day, ()))], (i.2.2.2.2.1, ())))))
def RenewF (y : Policy) (i : Item) (u : Keep) (day : Int) : Item × Int := if renE y i u day = 0 then (moreL i u day, 0) else (noItem, renE y i u day)
end Go.Proofs.YtfehjdaielifiaaGreat.K
