/-
 Then of the program.
-/
import Derived.Test.YtnimpcffagidoaaClone
namespace Go.Proofs.Ytnimpcffagidoaa
open Go.RowKit
set_option linter.unusedSimpArgs false
set_option linter.unusedVariables false
theorem own_more {w : World} {B B' : Nat} {e : TypeId} {size n : Nat} {v : Value} {xs : List Value} (h : w.ownsRow B e size v n xs) (hB : B' ≤ B) : w.ownsRow B' e size v n xs := by
 refine ⟨h.1, ?_⟩
 rcases h.2 with ⟨rfl, rfl⟩ | ⟨g, cap, cur, rfl, h1, h2⟩
 ·exact .inl ⟨rfl, rfl⟩
 ·exact .inr ⟨g, cap, cur, rfl, by omega, h2⟩
theorem own_ext {w w' : World} {B : Nat} {e : TypeId} {size n : Nat} {v : Value} {xs : List Value} (h : w.ownsRow B e size v n xs) (hb : Below w.heap.size w w') : w'.ownsRow B e size v n xs :=
 own_grown h (only_of_below hb none) (fun _ _ e => by cases e)
end Go.Proofs.Ytnimpcffagidoaa
