/-
 The law LedgerAdds.
-/
import Derived.Test.YtnimpcffagidoaaL3
import Derived.KernelRfl
set_option linter.unusedSimpArgs false
set_option linter.unusedVariables false
namespace Go.Proofs.Ytnimpcffagidoaa.K
open Go.RowKit
noncomputable section
structure Ads (i : Int) (a : Decision) (w : List Decision) : Prop where
 len : w.length ≤ 128
 gen : Gen zeroDec (decs w)
 last : w.length < 128 → lastD zeroDec (decs w) = dec a
 bd : 0 ≤ a.1 ∧ a.1 ≤ 2 * i ∧ 0 ≤ a.2.1 ∧ a.2.1 ≤ i
open Classical in
-- loop 0: (x21 : Int) (x22 : Int) (y6 : Ledger) (y7 : Decision) (y8 : (List Decision)) (y17 : Dice); out: ('ret',) (x4 : Bool); ('exit', 0) (y6 : Ledger) (y8 : (List Decision))
theorem dec_follows {d : Dice} {a : Decision} : Follows (dec a) (dec (decV d a)) := by
 have v1 := dval_lt (d := d) (n := 3) (by omega)
 have v2 := dval_lt (d := adv d) (n := 2) (by omega)
 have v3 := dval_lt (d := adv (adv d)) (n := 5) (by omega)
 have v4 := dval_lt (d := adv (adv (adv d))) (n := 3) (by omega)
 have v5 := dval_lt (d := adv (adv (adv (adv d)))) (n := 2) (by omega)
 simp only [Follows, dec, decV]
 omega
end
end Go.Proofs.Ytnimpcffagidoaa.K
