/-
 Items out of dice.
-/
import Derived.Test.YtfehjdaielifiaaGreatM2
import Derived.Test.YtfehjdaielifiaaGreatV20
set_option linter.unusedSimpArgs false
set_option linter.unusedVariables false
namespace Go.Proofs.YtfehjdaielifiaaGreat.K
open Go.RowKit
def useL : List Keep := [(2, (0, ())), (1, (0, ())), (5, (2048, ())), (16, (128, ())), (3, (0, ())), (15, (168, ()))]
def linkZ : Nat → Int → Dice → List Link × Dice
 | 0, _, d => ([], d)
 | n + 1, day, d => ((lgt tyKeep useL (dval d 6).toNat, (day, ())) :: (linkZ n (iadd .i64 (iadd .i64 day 1) (dof (dnext d 6) [5, 30, 0, 100])) (dofN (dnext d 6) [5, 30, 0, 100])).1, (linkZ n (iadd .i64 (iadd .i64 day 1) (dof (dnext d 6) [5, 30, 0, 100])) (dofN (dnext d 6) [5, 30, 0, 100])).2)
def itD3 (d : Dice) : Dice := dnext (dnext (dnext (dnext d 2) 4) 20) 3
def itLk (d : Dice) : List Link × Dice := linkZ (iadd .i64 1 (dval (dnext (dnext (dnext d 2) 4) 20) 3)).toNat (dval (dnext (dnext d 2) 4) 20) (itD3 d)
def itemV (d : Dice) (s : ByteArray) : Item := (s, (iadd .i64 1 (dval d 2), (iadd .i64 1 (dval (dnext d 2) 4), ((itLk d).1, (iadd .i64 (lgt tyLink (itLk d).1 0).2.1 (dof (itLk d).2 [50, 300, 0, 3000]), ())))))
def itemN (d : Dice) (_s : ByteArray) : Dice := dofN (itLk d).2 [50, 300, 0, 3000]
def dOkS (d : Dice) (_s : ByteArray) : Bool := dOk d
theorem dOk_link {n : Nat} : ∀ {day : Int} {d : Dice}, dOk d = true → dOk (linkZ n day d).2 = true := by
 induction n with
 | zero => exact fun h => h
 | succ n ih => exact fun h => ih (dOk_of (l := [5, 30, 0, 100]) (dOk_next h))
theorem dOk_itLk {d : Dice} (h : dOk d = true) : dOk (itLk d).2 = true := dOk_link (dOk_next (dOk_next (dOk_next (dOk_next h))))
theorem link_len : ∀ (n : Nat) (day : Int) (d : Dice), (linkZ n day d).1.length = n
 | 0, _, _ => rfl
 | n + 1, day, d => by simp only [linkZ, List.length_cons, link_len n]
end Go.Proofs.YtfehjdaielifiaaGreat.K
