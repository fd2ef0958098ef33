/-
  The answer of verdict: Keep.
-/
import Derived.Test.YtfehjdaielifiaaV11
import Derived.Test.YtfehjdaielifiaaV3
set_option linter.unusedSimpArgs false
set_option linter.unusedVariables false
namespace Go.Proofs.Ytfehjdaielifiaa.K
open Go.RowKit
/-! Keep -/
def keepL (l : List Keep) (p : Int) : Option Int := l.foldl (fun o k => if k.1 == p then some k.2.1 else o) none
theorem keepL_app (l : List Keep) (a : Keep) (p : Int) : keepL (l ++ [a]) p = if a.1 == p then some a.2.1 else keepL l p := by
  unfold keepL
  rw [List.foldl_append]
  rfl
theorem keepF_eq (y : Policy) (p : Int) : keepF y p = (keepL y.2.1 p).getD 0 := by
  have h : ∀ l : List Keep, keepZ (backL l) p = keepL l p := by
    intro l
    induction l using rev_ind with
    | h0 => rfl
    | h1 l a ih =>
      rw [keepL_app, ← ih, back_app]
      unfold keepZ
      rw [List.find?_cons]
      cases a.1 == p <;> rfl
  unfold keepF
  rw [h]
def keepLen (y : Policy) (_p : Int) : Bool := lenOk5 y.2.1
end Go.Proofs.Ytfehjdaielifiaa.K
