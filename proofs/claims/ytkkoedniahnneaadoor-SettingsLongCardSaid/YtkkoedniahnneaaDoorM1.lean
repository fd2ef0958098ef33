/-
 Dice: what they are made of, what they give.
-/
import Derived.Test.YtkkoedniahnneaaDoorV0
import Derived.KernelRfl
import Derived.IntWalk
set_option linter.unusedSimpArgs false
set_option linter.unusedVariables false
namespace Go.Proofs.YtkkoedniahnneaaDoor.K
open Go.RowKit
theorem lgt_get {y : Ty} {l : List y.T} {j : Nat} (h : j < l.length) : lgt y l j = l[j] := by
 unfold lgt
 rw [List.getD_eq_getElem?_getD, List.getElem?_eq_getElem h]
 rfl
theorem add1 {k : Nat} (h : k < 4611686018427387904) : iadd .i64 (k : Int) 1 = ((k + 1 : Nat) : Int) := by
 unfold iadd
 rw [Go.IntWalk.i64_in _ (by omega)]
 rfl
theorem iadd_in {a b : Int} (h : -9223372036854775808 ≤ a + b ∧ a + b ≤ 9223372036854775807) : iadd .i64 a b = a + b := Go.IntWalk.i64_in _ h
theorem isub_in {a b : Int} (h : -9223372036854775808 ≤ a - b ∧ a - b ≤ 9223372036854775807) : isub .i64 a b = a - b := Go.IntWalk.i64_in _ h
theorem cIx_nat {α : Type} {l : List α} {k : Nat} : cIx l (k : Int) = decide (k < l.length) := by
 unfold cIx
 congr 1
 exact propext ⟨fun h => by omega, fun h => by omega⟩
theorem ilt_nat {a b : Nat} : ilt (a : Int) (b : Int) = decide (a < b) := by
 unfold ilt
 congr 1
 exact propext ⟨fun h => by omega, fun h => by omega⟩
theorem range_ind {α : Type} (l : List α) (P : Nat → Prop) (h0 : P l.length) (hs : ∀ k, k < l.length → P (k + 1) → P k) : ∀ k, k ≤ l.length → P k := by
 intro k hk
 induction hn : l.length - k generalizing k with
 | zero =>
  have : k = l.length := by omega
  subst this
  exact h0
 | succ n ih => exact hs k (by omega) (ih (k + 1) (by omega) (by omega))
theorem some_b {x y : Bool} {l : List VO} (h : x = y) : some (V.t .bool x, l) = some (V.t .bool y, l) := by rw [h]
def dmod (n k : Int) : Int := if k < 1 then 0 else n % k
def dval (d : Dice) (n : Int) : Int := if d.2.1 ≥ d.1.length then 0 else dmod (d.1.getD d.2.1.toNat 0) n
def done (d : Dice) (n : Int) : Bool := dval d n == n - 1
end Go.Proofs.YtkkoedniahnneaaDoor.K
