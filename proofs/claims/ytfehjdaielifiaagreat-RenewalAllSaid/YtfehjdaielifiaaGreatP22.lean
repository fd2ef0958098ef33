/-
 Items: those out of dice are valid; links in time; a policy without rules.
-/
import Derived.Test.YtfehjdaielifiaaGreatV21
import Derived.Test.YtfehjdaielifiaaGreatM3
import Derived.Test.YtfehjdaielifiaaGreatM2P
set_option linter.unusedSimpArgs false
set_option linter.unusedVariables false
namespace Go.Proofs.YtfehjdaielifiaaGreat.K
open Go.RowKit
theorem lgt_mem {y : Ty} {l : List y.T} {i : Nat} (h : i < l.length) : lgt y l i ∈ l := by
 rw [lgt_get (y := y) h]
 exact List.getElem_mem h
theorem itLk_len (d : Dice) : 1 ≤ (itLk d).1.length ∧ (itLk d).1.length ≤ 3 := by
 have b3 := dval_lt (d := dnext (dnext (dnext d 2) 4) 20) (n := 3) (by omega)
 have e3 : iadd .i64 1 (dval (dnext (dnext (dnext d 2) 4) 20) 3) = 1 + dval (dnext (dnext (dnext d 2) 4) 20) 3 := iadd_in (by omega)
 unfold itLk
 rw [link_len, e3]
 omega
theorem len_of {y : Policy} {i : Item} (h : fineB y i = true) : fineLen y i = true := by
 simp only [fineB, Bool.and_eq_true] at h
 have hi := (itemOk_iff.1 h.2).1
 simp only [namedF, Bool.and_eq_true, decide_eq_true_eq] at hi
 unfold fineLen
 have hp : polLen y = true := (pol_len h.1).1
 simp only [hp, nameOk, Bool.true_and, decide_eq_true_eq]
 omega
def cnd (a x : LinkX) : Bool := !a.2.2.1 || ilt x.1 a.2.1
end Go.Proofs.YtfehjdaielifiaaGreat.K
